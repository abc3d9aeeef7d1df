/- SpaceCharge returns true at every input. No condition. Part of its proof. -/
import Derived.Test.YtfidemmgofcnmaaGreatDoorSc17
set_option maxHeartbeats 4000000
set_option maxRecDepth 100000
set_option linter.unusedVariables false
namespace Go.Proofs.YtfidemmgofcnmaaGreatDoor
open Go.RowKit Go.Proofs.Tryz
def Q0D (w:World) (id:Int):World:=(w.alloc (.cells #[.int .i64 id] 3)).alloc (.cells #[.int .i64 0,.int .i64 0] 173)
theorem Q2R (w:World) (id:Int):Below w.heap.size w (Q0D w id):=((Below.refl _ _).alloc (J2y _) _).alloc (by simp) _
structure J0J (q q1:FO) (e:En Nd) (w w3:World):Prop where
 c0:w3.cell? ⟨q.f,0,none⟩=some (.map (some q.m))
 c1:w3.cell? ⟨q.f,1,none⟩=some (.map (some q.o))
 b0:w3.cell? ⟨w.heap.size,0,none⟩=some (.int .i64 e.id)
 del:∃w5,(Builtin.delete_ #[280,3] 0 #[.map (some q.m),.int .i64 e.id]).run prog w3.drew=.ok (.tuple #[]) w5/\(w5.cell? ⟨q.f,1,none⟩=some (.map (some q.o))/\w5.cell? ⟨e.b,0,none⟩=some (.int .i64 e.q.sp)/\w5.cell? ⟨e.b,1,none⟩=some (.int .i64 e.q.sl)) /\
  ∃w7,(Builtin.delete_ #[281,173] 0 #[.map (some q.o),.agg #[.int .i64 e.q.sp,.int .i64 e.q.sl]]).run prog w5.drew=.ok (.tuple #[]) w7/\(w7.cell? ⟨e.b,0,none⟩=some (.int .i64 e.q.sp)/\w7.cell? ⟨e.b,1,none⟩=some (.int .i64 e.q.sl))/\Cells w7 (w.heap.size+1) 173 [.int .i64 0,.int .i64 0] /\
   ∀u v,Z8F q e w ((w7.setCell ⟨w.heap.size+1,0,none⟩ u).setCell ⟨w.heap.size+1,1,none⟩ v)
theorem Q9q {w w2 w3:World} {q q1:FO} {e:En Nd} (h:Sep w q.hl) (ok:q.Ok) (Ag:Below (Q0D w e.id).heap.size (Q0D w e.id) w2) (st:Step q.hl q1.hl w w3) (Fu:find q1.N e.id=some e) (Ac:q1.N.Pairwise (fun a b=>a.id≠b.id)) (hs:q1.N.Pairwise (fun a b=>(a.q.sp,a.q.sl)≠(b.q.sp,b.q.sl))) (hn:∀e∈q1.N,0<=e.q.sp/\e.q.sp<4294967296/\0<=e.q.sl/\e.q.sl<256)
  (e1:q1.cut e.id=q.dropped e) (e2:q1.kr=q.kr) (f1:q1.f=q.f) (f2:q1.m=q.m) (f3:q1.o=q.o) (BI:w3.cell? ⟨w.heap.size,0,none⟩=some (.int .i64 e.id)) (Ai:Cells w3 (w.heap.size+1) 173 [.int .i64 0,.int .i64 0]) (DM:∀b∈keys q1.hl,b∈keys q.hl):J0J q q1 e w w3:=by
 have Cm:GB<=w.heap.size:=h.env.gb;have A8:=st.sep;obtain⟨w5,r5,s5,BB⟩:=FO.delSteps A8.drew Ac hs hn Fu 3 0 173 0;obtain⟨w7,r7,s7⟩:=BB w5.drew (Below.refl _ _).drew;rw [f2] at r5;rw [f3] at r7;have nd5:Cells w5 e.b 285 (e.q.cells (q1.kr e.id)):=by
  obtain⟨A,B,hN,_,_⟩:=Q2X Ac Fu;exact s5.sep.cells (by rw [hN];simp [ndH])
 have nd7:Cells w7 e.b 285 (e.q.cells (q1.kr e.id)):=s7.sep.right.cells (by simp [ndH]);have st7:Step q.hl ((q1.cut e.id).hl++ndH q1.kr e) w w7:=st.trans s7.from_drew;rw [e1,e2] at st7;have c1:=FO.c1 A8;have Qh:w5.cell? ⟨q1.f,1,none⟩=some (.map (some q1.o)):=(s5.sep.cells (b:=q1.f) (T:=283) (cs:=[.map (some q1.m),.map (some q1.o),.int .i64 q1.next]) (by simp [FO.head])).cell 1 _ rfl;rw [f1,f3] at Qh;have N6:=FO.c0 A8;rw [f1,f2] at N6;rw [f1,f3] at c1;refine⟨N6,c1,BI,w5,r5,⟨Qh,nd5.cell 0 _ rfl,nd5.cell 1 _ rfl⟩,w7,r7,⟨nd7.cell 0 _ rfl,nd7.cell 1 _ rfl⟩,Ai.same (s7.from_drew.chg.block _ Ai.lt fun hk=>by have:=h.lt (DM _ hk);omega),fun u v=>?_⟩
 have EY:w.heap.size+1∉keys ((q.dropped e).hl++ndH q.kr e):=fun hk=>by
  rw [<- e1,<- e2] at hk;have h1:=((FO.cut_perm Ac Fu).map Prod.fst).mem_iff.2 hk;have h2:w.heap.size+1∈keys q1.hl:=by
   simpa [FO.hl,keys] using h1
  have:=h.lt (DM _ h2);omega
 exact (st7.set_aside (J6Q _) EY Cm 0 u).set_aside (J6Q _) EY Cm 1 v
theorem Z6i {q:FO} (Ac:q.N.Pairwise (fun a b=>a.id≠b.id)) {id:Int} {c:En Nd} (hf:find q.N id=some c) {n:Nd} {g cap:Nat} (CF:q.kr id=some (g,cap)) (h1:n.sp=c.q.sp) (h2:n.sl=c.q.sl):∀b∈keys (q.setN id n (some (g,cap))).hl,b∈keys q.hl:=fun b hb=>by
 obtain⟨R,p1,p2⟩:=FO.split Ac hf;rw [CF] at p1;have k1:=((p2 n (some (g,cap)) h1 h2).map Prod.fst).mem_iff.1 hb;exact (p1.map Prod.fst).mem_iff.2 (by simpa [rowH] using k1)
theorem Z3a {w:World} {q:FO} (h:Sep w q.hl) (ok:q.Ok) {e p:En Nd} (he:find q.N e.id=some e) (hp:find q.N e.q.par=some p) :
  ∃g cap:Nat,∀w2,Below (Q0D w e.id).heap.size (Q0D w e.id) w2->w2.cell? ⟨e.b,2,none⟩=some (.int .i64 e.q.par) /\
   Calls prog 180 #[.pointer (some ⟨q.f,0,none⟩),.int .i64 e.q.par] w2 (fun r w'=>r=.returned (.pointer (some ⟨p.b,0,none⟩))/\w2=w')/\w2.cell? ⟨p.b,3,none⟩=some (.slice (some ⟨g,0,none⟩) p.q.ks.length cap) /\
   Calls prog 240 #[.slice (some ⟨g,0,none⟩) p.q.ks.length cap,.func (.func 241) #[] #[.pointer (some ⟨w.heap.size,0,none⟩)]] w2 fun r w3=>r=.returned (.slice (some ⟨g,0,none⟩) (cutK p.q e.id).ks.length cap)/\w3.frozen? ⟨p.b,3,none⟩=false/\(∃v,w3.cell? ⟨p.b,3,none⟩=some v) /\
    ∃q1,J0J q q1 e w (w3.setCell ⟨p.b,3,none⟩ (.slice (some ⟨g,0,none⟩) (cutK p.q e.id).ks.length cap)):=by
 obtain⟨BU,_⟩:=Q0b he;obtain⟨BF,F9⟩:=Q0b hp;have Aa:e.id≠e.q.par:=by have:=ok.n.rise e BU;omega
 have hB:=Q2R w e.id;have Jb:Cells (Q0D w e.id) w.heap.size 3 [.int .i64 e.id]:=(Cells.new w 3 [.int .i64 e.id]).alloc (.cells #[.int .i64 0,.int .i64 0] 173);have Bj:(Q0D w e.id).heap.size=w.heap.size+2:=by simp [Q0D]
 have facts:∀w2,Below (Q0D w e.id).heap.size (Q0D w e.id) w2->Below w.heap.size w w2/\w2.cell? ⟨w.heap.size,0,none⟩=some (.int .i64 e.id)/\w.heap.size+2<=w2.heap.size:=fun w2 hb=>⟨hB.trans (hb.mono (by omega)),(Jb.same (hb.block _ (by omega))).cell 0 _ rfl,by have:=hb.size;omega⟩
 have EY:w.heap.size∉keys q.hl:=fun hk=>by have:=h.lt hk;omega
 obtain⟨g,cap,CF,_⟩:=FO.cutRow (w:=Q0D w e.id) (h.grown hB).sep ok he hp (b:=w.heap.size) (Jb.cell 0 _ rfl) EY (by omega);refine⟨g,cap,fun w2 hb=>?_⟩;obtain⟨Ak,BI,Gd⟩:=facts w2 hb;have s2:=(h.grown Ak).sep;have c3:=(FO.nd0 s2 hp).2.2.2;rw [F9,CF] at c3;refine⟨(FO.nd0 s2 he).2.2.1,Q2P s2 hp,c3,?_⟩;obtain⟨g',B9,MP,Bc⟩:=FO.cutRow s2 ok he hp BI EY (by omega);rw [CF] at MP;cases MP;refine Bc.mono ?_;rintro r w3 ⟨rfl,Ar,DC,Ca,st⟩;obtain⟨e1,e2⟩:=Z8G ok (e:=e) hp CF;refine⟨rfl,DC,Ca,q.setN e.q.par (cutK p.q e.id) (some (g,cap)),?_⟩;refine Q9q h ok hb ((h.grown Ak).trans st) (Z6h he Aa _ _) (Q2d (fun _ _ h=>h) ok.n.ids) ?_ ?_ e1 e2 rfl rfl rfl ?_ ?_ (Z6i ok.n.ids hp CF rfl rfl)
 ·show (mapE _ q.N).Pairwise _;unfold mapE;refine J3e.2 (J6j ?_ ok.n.spots);intro a b ha hb CI;have sp:∀c∈q.N,(if c.id=e.q.par then cutK p.q e.id else c.q).sp=c.q.sp/\(if c.id=e.q.par then cutK p.q e.id else c.q).sl=c.q.sl:=fun c hc=>by
   split
   ·rename_i Gp;rw [Q9n ok.n.ids hc Gp hp];exact⟨rfl,rfl⟩
   ·exact⟨rfl,rfl⟩
  simp only [(sp a ha).1,(sp a ha).2,(sp b hb).1,(sp b hb).2];exact CI
 ·intro d hd;obtain⟨c,hc,rfl⟩:=Q1r (show d∈mapE _ q.N from hd);have:=ok.n.sm c hc;simp only;split
  ·rename_i Gp;rw [Q9n ok.n.ids hc Gp hp] at this;exact this
  ·exact this
 ·have Aa:w.heap.size≠p.b:=fun hx=>EY (by
   have:p.b∈keys q.hl:=by
    obtain⟨A,B,hN,_,_⟩:=Q2X ok.n.ids hp;simp only [FO.hl,keys,J2B,List.map_flatMap];refine J6R _ (J6R _ (J6R _ (J2Z.2 ⟨p,BF,?_⟩)));simp [ndH]
   rw [hx];exact this)
  exact (World.cell?_of_block (Below.heap_setCell _ _ _ _ (by simpa using Aa))).trans Ar
 ·have C6:Cells (Q0D w e.id) (w.heap.size+1) 173 [.int .i64 0,.int .i64 0]:=by
   have:=Cells.new (w.alloc (.cells #[.int .i64 e.id] 3)) 173 [.int .i64 0,.int .i64 0];rw [show (w.alloc (.cells #[.int .i64 e.id] 3)).heap.size=w.heap.size+1 by simp] at this;exact this
  have MQ:=C6.same (hb.block _ (by omega));exact MQ.same (st.chg.block _ MQ.lt fun hk=>by have:=h.lt hk;omega)
theorem Z6j {w:World} {q:FO} (h:Sep w q.hl) (ok:q.Ok) {e p:En Nd} (he:find q.N e.id=some e) (hp:find q.N e.q.par=some p) :
  Calls prog 216 #[.pointer (some ⟨q.f,0,none⟩),.int .i64 e.id] w fun r w'=>(∃v,r=.returned v)/\Z8F q e w w':=by
 have hb:=Q2R w e.id;have Jb:=(Cells.new w 3 [.int .i64 e.id]).alloc (.cells #[.int .i64 0,.int .i64 0] 173);have b0:=Jb.cell 0 _ rfl;have Fl:=(h.grown hb).sep;have c0:=FO.c0 Fl;have hl:=FO.look_some Fl he;have R0:(Q0D w e.id).drew.cell? ⟨q.f,0,none⟩=some (.map (some q.m)):=c0;have b0d:(Q0D w e.id).drew.cell? ⟨w.heap.size,0,none⟩=some (.int .i64 e.id):=b0;have O5:=FO.look_some Fl.drew he;obtain⟨g,cap,Dt⟩:=Z3a h ok he hp;obtain⟨k2,Fw,k3,LS⟩:=Dt _ (Below.refl _ _).drew;have GG:=Q0a LS;unfold Q0D at *
 clear h ok he hp hb Fl Jb Dt LS;go_enter func216,ntmps216;go_wp2_with fail;go_region;go_wp2_with fail;refine Fw.mono ?_;rintro r w' ⟨rfl,rfl⟩;go_wp2_with fail;refine GG.out.mono ?_;rintro r w3 ⟨rfl,DC,⟨v,Ca⟩,q1,hE⟩;obtain⟨Oh,Ud,b0e,w5,r5,⟨Lc,e05,e15⟩,w7,r7,⟨e07,e17⟩,Ai,hz⟩:=hE;have HZ:=Q0a hz;generalize (cutK p.q e.id).ks.length=kl at *
 have Py:(w3.setCell ⟨p.b,3,none⟩ (.slice (some ⟨g,0,none⟩) kl cap)).drew.cell? ⟨q.f,0,none⟩=some (.map (some q.m)):=Oh;have b0e':(w3.setCell ⟨p.b,3,none⟩ (.slice (some ⟨g,0,none⟩) kl cap)).drew.cell? ⟨w.heap.size,0,none⟩=some (.int .i64 e.id):=b0e;have PE:w5.drew.cell? ⟨q.f,1,none⟩=some (.map (some q.o)):=Lc;have e05':w5.drew.cell? ⟨e.b,0,none⟩=some (.int .i64 e.q.sp):=e05;have e15':w5.drew.cell? ⟨e.b,1,none⟩=some (.int .i64 e.q.sl):=e15;clear hz GG Fw hl O5 c0 R0 b0 b0d k2 k3;go_wp2_with fail;go_region;go_wp2_with fail;go_region;have g0:=Ai.cell 0 _ rfl;have g1:=Ai.cell 1 _ rfl
 have gf0:=Ai.free 0;have gf1:=Ai.free 1;have glt:=Ai.lt;clear Ai;go_wp2_with fail;refine bodyPost_ret (v:=.agg #[.int .i64 e.q.sp,.int .i64 e.q.sl]) (by simp [results,results216,go_sem,g0,g1]) rfl ⟨⟨_,rfl⟩,HZ.out _ _⟩
theorem Z3b {w:World} {q:FO} (h:Sep w q.hl) (ok:q.Ok) {e:En Nd} (he:find q.N e.id=some e) (hp:find q.N e.q.par=none) :
  Calls prog 216 #[.pointer (some ⟨q.f,0,none⟩),.int .i64 e.id] w fun r w'=>(∃v,r=.returned v)/\Z8F q e w w':=by
 have hb:=Q2R w e.id;have Jb:=(Cells.new w 3 [.int .i64 e.id]).alloc (.cells #[.int .i64 0,.int .i64 0] 173);have b0:=Jb.cell 0 _ rfl;have Fl:=(h.grown hb).sep;have c0:=FO.c0 Fl;have hl:=FO.look_some Fl he;have R0:(Q0D w e.id).drew.cell? ⟨q.f,0,none⟩=some (.map (some q.m)):=c0;have b0d:(Q0D w e.id).drew.cell? ⟨w.heap.size,0,none⟩=some (.int .i64 e.id):=b0;have O5:=FO.look_some Fl.drew he;have Fw:=Q4L Fl.drew hp;have k2:=(FO.nd0 Fl.drew he).2.2.1;have C6:Cells (Q0D w e.id) (w.heap.size+1) 173 [.int .i64 0,.int .i64 0]:=by
  have:=Cells.new (w.alloc (.cells #[.int .i64 e.id] 3)) 173 [.int .i64 0,.int .i64 0];rw [show (w.alloc (.cells #[.int .i64 e.id] 3)).heap.size=w.heap.size+1 by simp] at this;exact this
 have Aq:∀c∈q.N,c.id≠e.q.par:=fun c hc hx=>by
  have:=Q0l ok.n.ids hc;rw [hx,hp] at this;cases this
 have e1:q.cut e.id=q.dropped e:=by
  unfold FO.cut FO.dropped;rw [Z6c Aq]
 have hE:J0J q q e w (Q0D w e.id).drew:=Q9q h ok ((Below.refl _ _).drew) ((h.grown hb).drew) he ok.n.ids ok.n.spots (fun c hc=>ok.n.sm c hc) e1 rfl rfl rfl rfl b0d C6 (fun _ h=>h);obtain⟨Oh,Ud,b0e,w5,r5,⟨Lc,e05,e15⟩,w7,r7,⟨e07,e17⟩,Ai,hz⟩:=hE;have HZ:=Q0a hz;have Py:(Q0D w e.id).drew.drew.cell? ⟨q.f,0,none⟩=some (.map (some q.m)):=Oh;have b0e':(Q0D w e.id).drew.drew.cell? ⟨w.heap.size,0,none⟩=some (.int .i64 e.id):=b0e;have PE:w5.drew.cell? ⟨q.f,1,none⟩=some (.map (some q.o)):=Lc;have e05':w5.drew.cell? ⟨e.b,0,none⟩=some (.int .i64 e.q.sp):=e05;have e15':w5.drew.cell? ⟨e.b,1,none⟩=some (.int .i64 e.q.sl):=e15
 have g0:=Ai.cell 0 _ rfl;have g1:=Ai.cell 1 _ rfl;have gf0:=Ai.free 0;have gf1:=Ai.free 1;have glt:=Ai.lt;clear h ok he hp hb Fl Jb C6 Aq e1 hz Ai;unfold Q0D at *
 go_enter func216,ntmps216;go_wp2_with fail;go_region;go_wp2_with fail;refine Fw.mono ?_;rintro r w' ⟨rfl,rfl⟩;clear Fw hl O5 c0 b0 k2;go_wp2_with fail;go_region;go_wp2_with fail;go_region;go_wp2_with fail;refine bodyPost_ret (v:=.agg #[.int .i64 e.q.sp,.int .i64 e.q.sl]) (by simp [results,results216,go_sem,g0,g1]) rfl ⟨⟨_,rfl⟩,HZ.out _ _⟩
theorem Z6k {w:World} {q:FO} (h:Sep w q.hl) (ok:q.Ok) {e:En Nd} (he:find q.N e.id=some e) :
  Calls prog 216 #[.pointer (some ⟨q.f,0,none⟩),.int .i64 e.id] w fun r w'=>(∃v,r=.returned v)/\Z8F q e w w':=by
 cases hp:find q.N e.q.par with
 | none=>exact Z3b h ok he hp
 | some p=>exact Z6j h ok he hp
def J1H (q:FO) (e:En Nd) (w w':World):Prop:=∃F':FO,F'.f=q.f/\F'.N=Q0C q.N e e.q.ks.length/\F'.next=q.next/\F'.Ok/\Step q.hl F'.hl w w'
theorem Z6l {w w':World} {q F:FO} {e:En Nd} (ok:q.Ok) (he:find q.N e.id=some e) (L:Z2Z q e e.q.ks.length F) (st:Step q.hl (F.hl++ndH q.kr e) w w'):J1H q e w w':=by
 refine⟨F,L.f,L.N,L.next,⟨by rw [L.N,L.next];exact ok.n.lift he,by rw [L.next];exact ok.lim,L.rv,?_⟩,st.drop (J3p _ _)⟩;rw [L.N];unfold Q0C mapE;rw [J4j];exact J2z (Q1y q.N e.id).length_le ok.few
theorem Z3c {q:FO} (ok:q.Ok) (e:En Nd):Z2Z q e 0 (q.dropped e):=⟨rfl,rfl,rfl,rfl,rfl,fun c hc=>by
 obtain⟨d,hd,rfl⟩:=Q1r (show c∈mapE _ (rem q.N e.id) from hc);have h0:=ok.rv d (Q7K hd);show rvOk (q.kr d.id) (Q0t e 0 d).ks.length;have CN:(Q0t e 0 d).ks.length<=d.q.ks.length:=by
  unfold Q0t;simp only [J5Z,J4G];split
  ·exact J4P _ _
  ·exact J2y _
 cases hk:q.kr d.id with
 | none =>
  rw [hk] at h0;have Df:d.q.ks.length=0:=h0;show (Q0t e 0 d).ks.length=0;omega
 | some gc =>
  rw [hk] at h0;obtain⟨g,cap⟩:=gc;have Df:d.q.ks.length<=cap/\cap<=maxLen:=h0;exact⟨by omega,Df.2⟩⟩
theorem Q9r {w:World} {q:FO} (h:Sep w q.hl) (ok:q.Ok) {e:En Nd} (he:find q.N e.id=some e) :
  Calls prog 174 #[.pointer (some ⟨q.f,0,none⟩),.int .i64 e.id] w fun r w'=>(∃v,r=.returned v)/\J1H q e w w':=by
 have ka:=Q2P h he;obtain⟨BU,_⟩:=Q0b he;have kd:=Z6k h ok he;have Fs:=ok.n.kids_few BU;have Cx:=ok.few;have HD:=Q0a kd;have CC:=Q0a ok;have HE:=Q0a he;have Ae:e.q.ks.length<=65536:=by omega
 clear kd h ok he BU;go_enter func174,ntmps174;go_wp2_with fail;refine ka.mono ?_;rintro r w1 ⟨rfl,rfl⟩;go_wp2_with fail;refine HD.out.mono ?_;rintro r w1 ⟨⟨v,rfl⟩,st⟩;have AU:Cells w1 e.b 285 (e.q.cells (q.kr e.id)):=st.sep.right.cells (by simp [ndH]);have c3:=AU.cell 3 _ rfl;have BP:=Q0a st;have R7:=Q0a (rfl:e.q.ks.length=e.q.ks.length);have Kz:∃(a:Option Addr) (cap:Nat),lvOf (q.kr e.id) e.q.ks.length=.slice a e.q.ks.length cap/\(∀g c,q.kr e.id=some (g,c)->a=some ⟨g,0,none⟩)/\(q.kr e.id=none->e.q.ks.length=0):=by
  have AO:=CC.out.rv e (Q0b HE.out).1;cases CF:q.kr e.id with
  | none =>
   rw [CF] at AO;have Cz:e.q.ks.length=0:=AO;exact⟨none,0,by rw [Cz];rfl,fun _ _ h=>by (cases h),fun _=>Cz⟩
  | some gc=>exact⟨some ⟨gc.1,0,none⟩,gc.2,rfl,fun g c h=>by cases h;rfl,fun h=>by cases h⟩
 obtain⟨a0,cap,Nj,IK,AS⟩:=Kz;rw [Nj] at c3;have Li:=Q0a IK;have Ge:=Q0a AS;have E7:=Q0a Ae;clear st ka HD AU Nj IK AS Fs Cx;go_wp2_with fail
 go_loopg [26] e.q.ks.length (fun gk iv wr=>∃(j:Nat) (F:FO),iv=.int .i64 j/\j+gk=e.q.ks.length/\Z2Z q e j F/\Step q.hl (F.hl++ndH q.kr e) w wr)
 case atStart=>exact⟨0,q.dropped e,rfl,by omega,Z3c CC.out e,BP.out⟩
 case round =>
  obtain⟨j,F,rfl,IF,hL,st⟩:=hrel;have HL:=Q0a hL;have J0:=Q0a IF;have HS:=Q0a st;by_cases hj:j<e.q.ks.length
  ·obtain⟨k,hk⟩:∃k,e.q.ks[j]?=some k:=⟨e.q.ks[j],J4R hj⟩
   have Ax:∃g,a0=some ⟨g,0,none⟩/\wr.cell? ⟨g,j,none⟩=some (.int .i64 k):=by
    cases CF:q.kr e.id with
    | none=>have:=Ge.out CF;omega
    | some gc =>
     have hr:=st.sep.right.tail;rw [CF] at hr;exact⟨gc.1,Li.out gc.1 gc.2 CF,Q0Y hr j _ (by rw [J4l,hk];rfl)⟩
   obtain⟨g,rfl,D1⟩:=Ax;obtain⟨c,Et,⟨f0,e2,DC,v,Ca⟩,NF,ee2,GE⟩:=Q7t CC.out HE.out hL st.sep hk;obtain⟨c',IH,⟨f0',e2',Pz,v',Pk⟩,OD,ee2',-⟩:=Q7t CC.out HE.out hL st.sep.drew hk;rw [Et] at IH;obtain rfl:c=c':=J3x IH;have KE:F.f=q.f:=hL.f;rw [KE] at f0 f0';have hW:=GE _ (Below.refl _ _).drew;rw [KE] at hW;have ee2d:(wr.setCell ⟨c.b,2,none⟩ (.int .i64 e.q.par)).drew.cell? ⟨e.b,2,none⟩=some (.int .i64 e.q.par):=ee2;by_cases Bg:find q.N e.q.par=none
   ·obtain⟨Fw,F',L',st'⟩:=hW.1 Bg;have PH:=Q0a L';have O4:=Q0a (st.trans st');have PJ:(j:Int)<(e.q.ks.length:Int):=by omega
    have G3:(0:Int)<=(j:Int):=by omega
    have Q7:(j:Int)<65536:=by have:=E7.out;omega
    generalize e.q.ks.length=n at *
    clear GE hW Et IH L' st' hL st hk IF Ae Ge;go_wp2_with fail;go_region;go_wp2_with fail;refine Fw.mono ?_;rintro r w' ⟨rfl,rfl⟩;go_wp2_with fail;go_roundg (n-(j+1))
    case measure=>have:=J0.out;omega
    case rel=>exact⟨j+1,F',by go_num,by have:=J0.out;omega,PH.out,O4.out⟩
   ·obtain⟨pb,V,Fw,Rm,⟨ua,un,uc,rfl⟩,V',w',rap,⟨va,vn,vc,rfl⟩,VE,pfr,F',L',st'⟩:=hW.2 Bg;have PH:=Q0a L';have O4:=Q0a (st.trans st');have PJ:(j:Int)<(e.q.ks.length:Int):=by omega
    have G3:(0:Int)<=(j:Int):=by omega
    have Q7:(j:Int)<65536:=by have:=E7.out;omega
    have VM:((wr.setCell ⟨c.b,2,none⟩ (.int .i64 e.q.par)).drew.alloc (.cells #[.int .i64 k] 3)).cell? ⟨pb,3,none⟩=some (.slice ua un uc):=(World.cell?_of_block (Below.heap_alloc _ _ _ (World.block_lt_of_cell? _ ⟨pb,3,none⟩ Rm))).trans Rm;have pf3:=pfr 3;generalize e.q.ks.length=n at *
    clear GE hW Et IH L' st' hL st hk IF Ae Ge pfr;go_wp2_with fail;go_region;go_wp2_with fail;refine Fw.mono ?_;rintro r w' ⟨rfl,rfl⟩;generalize hW0:(wr.setCell ⟨c.b,2,none⟩ (.int .i64 e.q.par)).drew=W0 at *
    clear f0 e2 DC Ca NF ee2 f0' e2' Pz Pk OD ee2' ee2d D1 Fw hW0;go_wp2_with (at_builtin;refine Lib.wpList_append_run _ rfl _ _ _ _ rfl _ _ rfl rfl _ _ rap ?_);go_roundg (n-(j+1))
    case measure=>have:=J0.out;omega
    case rel=>exact⟨j+1,F',by go_num,by have:=J0.out;omega,PH.out,O4.out⟩
  ·obtain rfl:j=e.q.ks.length:=by omega
   have HR:=Q0a (Z6l CC.out HE.out hL st);generalize e.q.ks.length=n at *
   clear hL st Ae;go_wp2_with fail
   first|exact⟨⟨_,rfl⟩,HR.out⟩|(go_ret;exact⟨⟨_,rfl⟩,HR.out⟩)
theorem Z3d (a b:Nat) (ha:a<16) (hb:b<16):bits .andNot .i64 (a:Int) (b:Int)=((less a b:Nat):Int):=by
 have:∀a b:Fin 16,bits .andNot .i64 ((a.val:Nat):Int) ((b.val:Nat):Int)=((less a.val b.val:Nat):Int):=by decide +kernel
 exact this ⟨a,ha⟩ ⟨b,hb⟩
theorem Q6u (a b:Nat) (ha:a<16) (hb:b<16):bits .and .i64 (a:Int) (b:Int)=((a&&&b:Nat):Int):=by
 have:∀a b:Fin 16,bits .and .i64 ((a.val:Nat):Int) ((b.val:Nat):Int)=((a.val&&&b.val:Nat):Int):=by decide +kernel
 exact this ⟨a,ha⟩ ⟨b,hb⟩
theorem Q7u {S:CO} {fr:List Nat} {N K:Nat} {tb:Nat->TB} (ok:S.Ok fr N K) (t:TPI S tb) {i s:Nat} {p:Pl} (hi:S.l[i]?=some p) (h1:p.st=1) (h2:p.kind=2) (hs:s<256) {e e2:Ent} (he:(tb i).en s=some e) (hn:e2.nd=e.nd) (hl:e2.Low) {w:World} {g:Nat} (A8:Sep w S.hl) (hg:TblC S p g w) :
  Calls prog 103 #[.pointer (some ⟨g,0,none⟩),.int .i64 s,.int .u64 (e2.a:Nat),.int .u64 (e2.nd:Nat)] w fun r w'=>r=.returned (.int .i64 0)/\J1E S fr N K tb (p.fac:Int) i s (some e2) w w':=by
 have tx:=t.x (p.fac:Int);have Am:=Q1p ok.inv.len hi;have T:=tx.tt ok hi h1 h2 A8 hg;have F7:(tb i).lf (s/16)≠0:=fun h=>by
  have:=T.tin.hole s hs h;rw [he] at this;cases this
 have MZ:e2.nd∈S.P.usedOf 6:=t.nds.mem_iff.1 (J2Z.2 ⟨i,J2P.2 Am,mem_nds.2 ⟨s,e,hs,he,hn.symm⟩⟩);have hm:=Q0n ok.inv.mem.pool MZ;have GS:=Q0p ok.inv.mem.pool;obtain⟨l1,l2⟩:=hl;refine (Z1O ok tx hi h1 h2 rfl hs (xn':=[]) (by rw [TB.nds_same hs he hn]) (by show e2.h+1+4294967296*e2.r<_;omega) (by show e2.nd<_;omega) A8 hg).mono ?_;rintro r w' (⟨rfl,hp⟩|⟨h0,_⟩)
 ·exact⟨rfl,hp.turn t.full⟩
 ·exact absurd h0 F7
def Z0D (Z:SP) (fr:List Nat) (N K:Nat) (M:Int) (m:Nat) (id:Int) (w:World) (b:Bool) (w':World):Prop:=∃Z',Z'.Ok fr N K M/\weak1 m Z.av id=(Z'.av,b)/\SameZ Z Z'/\Step Z.hl Z'.hl w w'
theorem FPI.low {l:List Pl} {tb:Nat->TB} {N:List (En Nd)} (f:FPI l tb N) (lok:LOk l) {h s:Nat} {e:Ent} (he:Q0f l tb h s=some e):e.Low:=by
 obtain⟨⟨q,hq,_⟩,hr⟩:=f.cap h s e he;have h1:=pget_some.1 hq;have h2:=lok.2 q (Q0A hq);refine⟨?_,by omega⟩;have:nm (e.h%256) q=e.h:=h1.2.1;unfold nm at this;omega
theorem Q9s {w:World} {Z:SP} {fr:List Nat} {N K:Nat} {M:Int} (hs:Sep w Z.hl) (ok:Z.Ok fr N K M) {id:Int} (hf:find Z.F.N id=none) (m:Nat) :
  Calls prog 206 #[.pointer (some ⟨Z.s,0,none⟩),.int .i64 id,.int .i64 m] w fun r w'=>r=.returned (.bool false)/\Z0D Z fr N K M m id w false w':=by
 have c1:=SP.c1 hs;have ko:=Q6o (SP.sF hs) hf;obtain⟨p0,E3,Bs,_,DJ,RZ,_⟩:=ok.core.inv.que.root;have Bv:pget Z.S.l 1 0=some p0:=pget_some.2 ⟨E3,by unfold nm;omega,DJ⟩;have ks:=Q0I hs ok.core (x:=0) (by omega) 10 (.inr ⟨p0,Bv,by omega,rfl⟩);have HR:Hid (∀w',Below w.heap.size w w'->Z0D Z fr N K M m id w false w'):=fun w' hb=>⟨Z,ok,by unfold weak1;rw [show Z.av.N=Z.F.N from rfl,hf],SameZ.refl Z,hs.grown hb⟩
 clear hs ok hf Bv E3;go_enter func206,ntmps206;go_wp2_with fail;refine ko.mono ?_;rintro r w1 ⟨rfl,rfl⟩;go_wp2_with fail;refine ks.mono ?_;rintro r w1 ⟨rfl,hb⟩;have HQ:=Q0a (HR.out _ (hb.alloc hb.size (.cells #[.pointer none,.int .u32 0,.int .i64 0] 191)));clear hb HR ks ko;go_wp2_with fail
 first|exact⟨rfl,HQ.out⟩|(go_ret;exact⟨rfl,HQ.out⟩)
structure J2o (Z:SP) (fr:List Nat) (N K:Nat) (M:Int) (m:Nat) (id:Int) (h s g:Nat) (p:Pl) (e:Ent) (w w2:World):Prop where
 go:∀w3,Below w2.heap.size w2 w3->w3.cell? ⟨Z.s,1,none⟩=some (.pointer (some ⟨Z.F.f,0,none⟩)) /\
  Calls prog 93 #[.agg #[.pointer (some ⟨g,0,none⟩),.int .u32 h,.int .i64 (p.fac:Int)],.int .i64 s] w3 (Told w3 (.tuple #[.agg #[.int .u32 (e.h:Int),.int .i64 (e.r:Int)],.bool true])) /\
  Calls prog 102 #[.pointer (some ⟨g,0,none⟩),.int .i64 s] w3 (fun r w'=>r=.returned (.tuple #[.int .u64 (e.a:Nat),.int .u64 (e.nd:Nat)])/\w3=w')
 lift:less e.r m=0->∀w3,Below w2.heap.size w2 w3->Calls prog 174 #[.pointer (some ⟨Z.F.f,0,none⟩),.int .i64 id] w3 fun r w4=>(∃v,r=.returned v)/\(∀b,w2.heap.size<=b->b<w3.heap.size->w4.heap[b]?=w3.heap[b]?)/\w3.heap.size<=w4.heap.size /\
  Calls prog 99 #[.pointer (some ⟨Z.s,0,none⟩),.agg #[.pointer (some ⟨g,0,none⟩),.int .u32 h,.int .i64 (p.fac:Int)],.int .i64 s] w4 fun r w5=>r=.returned (.tuple #[])/\Z0D Z fr N K M m id w true w5
 set:less e.r m≠0->∀w3,Below w2.heap.size w2 w3->Calls prog 103 #[.pointer (some ⟨g,0,none⟩),.int .i64 s,.int .u64 ((⟨e.h,less e.r m,0⟩:Ent).a:Nat),.int .u64 (e.nd:Nat)] w3 fun r w4=>r=.returned (.int .i64 0)/\(∀b,w2.heap.size<=b->b<w3.heap.size->w4.heap[b]?=w3.heap[b]?)/\Z0D Z fr N K M m id w false w4
theorem Step.keep {H H':HL} {w w1 w':World} {B:Nat} (st:Step H H' w1 w') (hs:Sep w H) (hB:w.heap.size<=B):∀b,B<=b->b<w1.heap.size->w'.heap[b]?=w1.heap[b]?:=fun b h1 h2=>st.chg.block b h2 fun hk=>by
 have:=hs.lt hk;omega
theorem Z3e {w w1:World} {Z:SP} {fr:List Nat} {N K:Nat} {M:Int} (hs:Sep w Z.hl) (hb:Below w.heap.size w w1) (ok:Z.Ok fr N K M) {id:Int} {n:En Nd} (hf:find Z.F.N id=some n) {m:Nat} (hm:m<16) (hd:m=15∨Q3F m Z.av [] id)
  {h s:Nat} {p:Pl} {e:Ent} (h1:n.q.sp=(h:Int)) (h2:n.q.sl=(s:Int)) (hh:h<4294967296) (A7:s<256) (hp:pget Z.S.l 1 h=some p) (hk:p.kind=2) (AX:(Z.tb (h%256)).en s=some e) (he:Q0f Z.S.l Z.tb h s=some e) :
  Calls prog 90 #[.pointer (some ⟨Z.s,0,none⟩),.int .u32 h] w1 fun r w2=>∃g:Nat,r=.returned (.tuple #[.agg #[.pointer (some ⟨g,0,none⟩),.int .u32 h,.int .i64 (p.fac:Int)],.int .i64 0])/\J2o Z fr N K M m id h s g p e w w2:=by
 have s1:=(hs.grown hb).sep;have hi:=(pget_some.1 hp).1;have Ao:=(pget_some.1 hp).2.2;have A5:=ok.fpi.low ok.core.inv.lok he;have hr:=(ok.fpi.cap h s e he).r;refine (Q0V s1 ok.core hh hp hk).mono ?_;rintro r w2 ⟨g,rfl,Ag,hg⟩;have Gh:Below w.heap.size w w2:=hb.trans (Ag.mono hb.size);have grow:∀w3,Below w2.heap.size w2 w3->Below w.heap.size w w3/\Sep w3 Z.hl/\TblZ Z p g w3:=fun w3 Ar=>by
  have Ak:Below w.heap.size w w3:=Gh.trans (Ar.mono Gh.size);exact⟨Ak,(hs.grown Ak).sep,hg.grown (hs.grown Gh).sep Ar⟩
 have AA:(Z.tb (h%256)).at' (s:Int)=some e:=by unfold TB.at';rw [if_pos ⟨by omega,by omega⟩,J3F,AX]
 refine⟨g,rfl,fun w3 Ar=>?_,fun h0 w3 Ar=>?_,fun h0 w3 Ar=>?_⟩
 ·obtain⟨Ak,s3,g3⟩:=grow w3 Ar;have T:=(ok.tpi.x (p.fac:Int)).tt ok.core hi Ao hk (SP.sS s3) g3.c;have kc:=Q1t T (h:Int) (p.fac:Int) (s:Int) (fun e' AM=>by rw [AA] at AM;cases AM;exact A5);have kg:=Q3H T (s:Int);rw [AA] at kc kg;exact⟨SP.c1 s3,kc,kg⟩
 ·obtain⟨Ak,s3,g3⟩:=grow w3 Ar;obtain⟨hn,hid⟩:=Q0b hf;have kl:=Q9r (SP.sF s3) ok.fo (e:=n) (by rw [hid];exact hf);rw [hid] at kl;refine kl.mono ?_;rintro r w4 ⟨hv,F',FY,ND,IB,DO,st⟩;have stz:=SP.stepF s3 F' FY st;have g4:TblZ (Z.setF F') p g w4:=g3.step stz rfl;refine⟨hv,stz.keep hs Gh.size,stz.chg.size,?_⟩;refine (Q4N (Z:=Z.setF F') stz.sep ok.core ok.tpi hi Ao hk A7 AX g4).mono ?_;rintro r w5 ⟨rfl,S',t',T,stt⟩;obtain⟨a1,a2,a3⟩:=ok.lifted hf h1 h2 hp hk A7 he h0 T ND DO IB FY;exact⟨rfl,_,a1,a2,a3,((hs.grown Ak).trans stz).trans stt⟩
 ·obtain⟨Ak,s3,g3⟩:=grow w3 Ar;have Eo:Q3F m Z.av [] id:=by
   rcases hd with rfl|hd
   ·exact absurd (Q4D e.r (by omega)) h0
   ·exact hd
  refine (Q7u (e2:=⟨e.h,less e.r m,e.nd⟩) ok.core ok.tpi hi Ao hk A7 AX rfl ⟨A5.1,by have:=(Q5E e.r (by omega) m hm).2.2;show less e.r m<16;omega⟩ (SP.sS s3) g3.c).mono ?_;rintro r w4 ⟨rfl,S',t',T,stt⟩;have stz:=SP.stepS s3 S' (updT Z.tb (h%256) t') T.alt.c stt;obtain⟨a1,a2,a3⟩:=ok.weakened hf h1 h2 hp hk A7 he hm h0 Eo T;exact⟨rfl,stz.keep hs Gh.size,_,a1,a2,a3,(hs.grown Ak).trans stz⟩
theorem Q9t {w:World} {Z:SP} {fr:List Nat} {N K:Nat} {M:Int} (hs:Sep w Z.hl) (ok:Z.Ok fr N K M) {id:Int} {n:En Nd} (hf:find Z.F.N id=some n) (m:Nat) (Dm:1<=m) (hm:m<16) (hd:m=15∨Q3F m Z.av [] id) :
  Calls prog 206 #[.pointer (some ⟨Z.s,0,none⟩),.int .i64 id,.int .i64 m] w fun r w'=>∃b:Bool,r=.returned (.bool b)/\Z0D Z fr N K M m id w b w':=by
 obtain⟨hn,hid⟩:=Q0b hf;obtain⟨h,s,p,e,h1,h2,hh,A7,hp,hk,AX,he⟩:=ok.fpi.task ok.fo.n hn;have A5:=ok.fpi.low ok.core.inv.lok he;have hr:=(ok.fpi.cap h s e he).r;have c1:=SP.c1 hs;have ko:=Q6p (SP.sF hs) hf;rw [h1,h2] at ko;have Ny:=Z3d e.r m (by omega) hm;have Jf:Hid (∀w,Calls prog 104 #[.agg #[.int .u32 (e.h:Int),.int .i64 ((less e.r m:Nat):Int)]] w (Told w (.int .u64 ((⟨e.h,less e.r m,0⟩:Ent).a:Nat)))):=fun w=>Q6r w e.h (less e.r m) A5.1 (by have:=(Q5E e.r (by omega) m hm).2.2;omega)
 have HC:Hid (∀w1,Below w.heap.size w w1->_):=fun w1 hb=>Z3e hs hb ok hf hm hd h1 h2 hh A7 hp hk AX he
 have Pd:(h:Int)<4294967296:=by omega
 have VL:(0:Int)<=(h:Int):=by omega
 clear hs ok hf hd h1 h2 hh hp hk AX he hn hid A5 hr Dm hm;by_cases h0:less e.r m=0
 ·rw [h0] at Ny;have Lr:=Q0a h0;clear h0 Jf;have Tp:bits .andNot .i64 (e.r:Int) (m:Int)=0:=Ny;clear Ny;go_enter func206,ntmps206;go_wp2_with fail;refine ko.mono ?_;rintro r w1 ⟨rfl,Av⟩;have HS:=Q0a (HC.out w1 Av);clear Av HC ko;go_wp2_with fail;refine HS.out.mono ?_;rintro r w2 ⟨g,rfl,hc⟩;have Gs:=hc.go _ ((Below.refl _ _).alloc (J2y _) (.cells #[.pointer (some ⟨g,0,none⟩),.int .u32 h,.int .i64 (p.fac:Int)] 191));have F6:=Gs.2.1;have DH:=Q0a hc;clear hc HS Gs;have hB:=Cells.new w2 191 [.pointer (some ⟨g,0,none⟩),.int .u32 h,.int .i64 (p.fac:Int)];go_wp2_with fail;refine F6.mono ?_
  rintro r w3 ⟨rfl,Ar⟩;have BE:Below w2.heap.size w2 w3:=Q0e Ar;have Ln:=hB.same (Ar.block w2.heap.size (by simp));have AC:Below w2.heap.size w2 (w3.alloc (.cells #[.int .u32 (e.h:Int),.int .i64 0] 72)):=BE.alloc BE.size _;have d1:=(DH.out.go _ AC).1;have Jo:=DH.out.lift Lr.out _ AC;have EM:=Ln.alloc (.cells #[.int .u32 (e.h:Int),.int .i64 0] 72);have BL:Hid (∀w5:World,(∀b,w2.heap.size<=b->b<(w3.alloc (.cells #[.int .u32 (e.h:Int),.int .i64 0] 72)).heap.size->w5.heap[b]?=(w3.alloc (.cells #[.int .u32 (e.h:Int),.int .i64 0] 72)).heap[b]?)->Cells w5 w2.heap.size 191 [.pointer (some ⟨g,0,none⟩),.int .u32 h,.int .i64 (p.fac:Int)]):=fun w5 hk=>EM.same (hk _ (J2y _) EM.lt)
  have DQ:=Q0a Jo;clear Ar BE hB F6 Ln EM AC Jo Lr DH;go_wp2_with fail;refine DQ.out.mono ?_;rintro r w5 ⟨⟨v,rfl⟩,Ea,Bj,Jt⟩;have JK:=BL.out w5 Ea;have b0:=JK.cell 0 _ rfl;have b1:=JK.cell 1 _ rfl;have b2:=JK.cell 2 _ rfl;have Em:=Q0a Jt;clear Ea Bj Jt DQ BL JK;go_wp2_with fail;refine Em.out.mono ?_;rintro r w6 ⟨rfl,hq⟩;have HQ:=Q0a hq;clear hq Em;go_wp2_with fail
  first|exact⟨true,rfl,HQ.out⟩|(go_ret;exact⟨true,rfl,HQ.out⟩)
 ·have Ub:(((less e.r m:Nat):Int)==0)=false:=by simpa using h0
  have Lr:=Q0a h0;have Aa:∃lr,lr=less e.r m:=⟨_,rfl⟩
  obtain⟨lr,hl⟩:=Aa;rw [<- hl] at Ny Ub Jf;have Qm:=Q0a hl;have P3:(lr:Int)≠0:=by
   rw [hl]
   simpa using h0
  have Lj:((lr:Int) != 0)=true:=by simpa using P3
  generalize (lr:Int)=lz at *
  clear h0 hl;go_enter func206,ntmps206;go_wp2_with fail;refine ko.mono ?_;rintro r w1 ⟨rfl,Av⟩;have HS:=Q0a (HC.out w1 Av);clear Av HC ko;go_wp2_with fail;refine HS.out.mono ?_;rintro r w2 ⟨g,rfl,hc⟩;have Gs:=hc.go _ ((Below.refl _ _).alloc (J2y _) (.cells #[.pointer (some ⟨g,0,none⟩),.int .u32 h,.int .i64 (p.fac:Int)] 191));have F6:=Gs.2.1;have DH:=Q0a hc;clear hc HS Gs;have hB:=Cells.new w2 191 [.pointer (some ⟨g,0,none⟩),.int .u32 h,.int .i64 (p.fac:Int)];go_wp2_with fail;refine F6.mono ?_;rintro r w3 ⟨rfl,Ar⟩;have BE:Below w2.heap.size w2 w3:=Q0e Ar;have Ln:=hB.same (Ar.block w2.heap.size (by simp))
  have AC:Below w2.heap.size w2 (w3.alloc (.cells #[.int .u32 (e.h:Int),.int .i64 lz] 72)):=BE.alloc BE.size _;have CS:=(DH.out.go _ AC).2.2;have EM:=Ln.alloc (.cells #[.int .u32 (e.h:Int),.int .i64 lz] 72);have IC:=Cells.new w3 72 [.int .u32 (e.h:Int),.int .i64 lz];have s0:=EM.cell 0 _ rfl;have q0:=IC.cell 0 _ rfl;have q1:=IC.cell 1 _ rfl;have Jd:Hid (∀w5,Below (w3.alloc (.cells #[.int .u32 (e.h:Int),.int .i64 lz] 72)).heap.size (w3.alloc (.cells #[.int .u32 (e.h:Int),.int .i64 lz] 72)) w5->Below w2.heap.size w2 w5/\w5.cell? ⟨w2.heap.size,0,none⟩=some (.pointer (some ⟨g,0,none⟩))/\w5.cell? ⟨w3.heap.size,0,none⟩=some (.int .u32 (e.h:Int))/\w5.cell? ⟨w3.heap.size,1,none⟩=some (.int .i64 lz)):=fun w5 AL=>⟨AC.trans (AL.mono AC.size),(EM.same (AL.block _ EM.lt)).cell 0 _ rfl,(IC.same (AL.block _ IC.lt)).cell 0 _ rfl,(IC.same (AL.block _ IC.lt)).cell 1 _ rfl⟩
  have BL:Hid (∀(w5 w6:World),Below (w3.alloc (.cells #[.int .u32 (e.h:Int),.int .i64 lz] 72)).heap.size (w3.alloc (.cells #[.int .u32 (e.h:Int),.int .i64 lz] 72)) w5->(∀b,w2.heap.size<=b->b<w5.heap.size->w6.heap[b]?=w5.heap[b]?)->w6.cell? ⟨w2.heap.size,0,none⟩=some (.pointer (some ⟨g,0,none⟩))/\w6.cell? ⟨w3.heap.size,0,none⟩=some (.int .u32 (e.h:Int))/\w6.cell? ⟨w3.heap.size,1,none⟩=some (.int .i64 lz)):=fun w5 w6 AL hk=>by
   have JK:=EM.same (AL.block _ EM.lt);have Nc:=IC.same (AL.block _ IC.lt);have l3:w2.heap.size<=w3.heap.size:=BE.size;exact⟨(JK.same (hk _ (J2y _) JK.lt)).cell 0 _ rfl,(Nc.same (hk _ l3 Nc.lt)).cell 0 _ rfl,(Nc.same (hk _ l3 Nc.lt)).cell 1 _ rfl⟩
  clear Ar BE hB F6 Ln EM IC AC;generalize e.a=ea at *
  go_wp2_with fail;refine CS.mono ?_;rintro r w4 ⟨rfl,rfl⟩;have Na:=Jd.out _ ((Below.refl _ _).drew);obtain⟨bb5,x1,x2,x3⟩:=Na;have VA:=Q0a bb5;have JP:=DH.out.set Lr.out;rw [<- Qm.out] at JP;have C9:=Q0a JP;clear bb5 JP CS DH Lr Qm;go_wp2_with fail
  go_region_held3 (fun w'=>w'.cell? ⟨w2.heap.size,0,none⟩=some (.pointer (some ⟨g,0,none⟩))/\w'.cell? ⟨w3.heap.size,0,none⟩=some (.int .u32 (e.h:Int))/\w'.cell? ⟨w3.heap.size,1,none⟩=some (.int .i64 lz)) (first|exact⟨s0,q0,q1⟩|exact⟨x1,x2,x3⟩|exact Na.2|exact US)
   (first|(go_at_call 104;refine (Jf.out _).mono ?_;rintro r w5 ⟨rfl,AL⟩;have DA:=((Below.refl (w3.alloc (.cells #[.int .u32 (e.h:Int),.int .i64 lz] 72)).heap.size _).drew).trans AL;have Na:=Jd.out w5 DA;have C5:=Q0a DA;clear DA AL Jf)|(go_at_call 103;refine (C9.out _ Na.1).mono ?_;rintro r w6 ⟨rfl,Ea,hq⟩;have US:=BL.out _ w6 C5.out Ea;have HQ:=Q0a hq;clear hq Ea C9))
  go_wp2_with fail
  first|exact⟨false,rfl,HQ.out⟩|(go_ret;exact⟨false,rfl,HQ.out⟩)
theorem Z0E {w:World} {Z:SP} {fr:List Nat} {N K:Nat} {M:Int} (hs:Sep w Z.hl) (ok:Z.Ok fr N K M) (id:Int) (m:Nat) (Dm:1<=m) (hm:m<16) (hd:m=15∨Q3F m Z.av [] id) :
  Calls prog 206 #[.pointer (some ⟨Z.s,0,none⟩),.int .i64 id,.int .i64 m] w fun r w'=>∃b:Bool,r=.returned (.bool b)/\Z0D Z fr N K M m id w b w':=by
 cases hf:find Z.F.N id with
 | none=>exact (Q9s hs ok hf m).mono fun r w' ⟨h1,h2⟩=>⟨false,h1,h2⟩
 | some n=>exact Q9t hs ok hf m Dm hm hd
def Q8g (Z:SP) (fr:List Nat) (N K:Nat) (M:Int) (m:Nat) (l:List Int) (w w':World):Prop:=∃Z',Z'.Ok fr N K M/\Z'.av=(Q0N m Z.av l).1/\SameZ Z Z'/\Step Z.hl Z'.hl w w'
structure WaI (Z:SP) (fr:List Nat) (N K:Nat) (M:Int) (m:Nat) (l:List Int) (a:Option Addr) (w:World) (k:Nat) (Z1:SP) (wr:World):Prop where
 ok:Z1.Ok fr N K M
 av:Z1.av=(Q0N m Z.av (l.take k)).1
 same:SameZ Z Z1
 st:Step Z.hl Z1.hl w wr
 row:AsideV Z1.hl (l.map encI) a wr
 wk:WeakOk m Z1.av (l.drop k)
theorem WaI.next {Z Z1:SP} {fr:List Nat} {N K:Nat} {M:Int} {m:Nat} {l:List Int} {a:Option Addr} {w wr w':World} {k:Nat} {x:Int} {b:Bool} (I:WaI Z fr N K M m l a w k Z1 wr) (hx:l[k]?=some x) (hm:m<16) (h:Z0D Z1 fr N K M m x wr b w') :
  (Q0N m Z.av (l.take (k+1))).2=(Q0N m Z.av (l.take k)).2+(if b=true then 1 else 0)/\∃Z2,WaI Z fr N K M m l a w (k+1) Z2 w':=by
 obtain⟨Z2,ok2,e2,s2,st2⟩:=h;have AR:l.take (k+1)=l.take k++[x]:=by rw [J4w,hx];rfl
 have Fq:l.drop k=x::l.drop (k+1):=by
  obtain⟨Ab,hg⟩:=J2Q.1 hx;rw [<- hg];exact J5t Ab
 have D0:Q0N m Z.av (l.take (k+1))=(Z2.av,(Q0N m Z.av (l.take k)).2+if b=true then 1 else 0):=by
  rw [AR,weakA_snoc,<- I.av,e2]
 have K9:=I.wk;rw [Fq] at K9;have Ao:=WeakOk.step (a:=Z1.av) (next:=Z1.F.next) I.ok.fo.n (fun h s y hy=>(I.ok.fpi.rights hy).2) hm K9;rw [e2] at Ao;exact⟨by rw [D0],Z2,⟨ok2,by rw [D0],I.same.trans s2,I.st.trans st2,AsideV.step I.row st2,Ao⟩⟩
theorem Q2t {w:World} {Z:SP} {fr:List Nat} {N K:Nat} {M:Int} (hs:Sep w Z.hl) (ok:Z.Ok fr N K M) (m:Nat) (Dm:1<=m) (hm:m<16) (l:List Int) (a:Option Addr) (cap:Nat) (hl:l.length<=70000) (Ax:AsideV Z.hl (l.map encI) a w) (hk:WeakOk m Z.av l) :
  Calls prog 158 #[.pointer (some ⟨Z.s,0,none⟩),.int .i64 m,.slice a l.length cap] w fun r w'=>r=.returned (.int .i64 ((Q0N m Z.av l).2:Nat))/\Q8g Z fr N K M m l w w':=by
 have Cg:Hid (WaI Z fr N K M m l a w 0 Z w):=⟨ok,rfl,SameZ.refl Z,Step.refl hs,Ax,by simpa using hk⟩
 have HM:Hid (1<=m/\m<16):=⟨Dm,hm⟩
 have E7:=Q0a hl;have Gk:Hid (∀k,(Q0N m Z.av (l.take k)).2<=l.length):=fun k=>J2z (Q5F m _ _) (List.length_take_le' k l)
 have EV:Hid (Q0N m Z.av (l.take l.length)=Q0N m Z.av l):=by rw [J6J];exact rfl
 clear hs ok Ax hk Dm hm;generalize hn:l.length=n at *
 have HN:=Q0a hn;clear hl hn;go_enter func158,ntmps158;go_wp2_with fail
 go_loopg [7,12] n (fun gk cv iv wr=>∃(k:Nat) (Z1:SP),iv=.int .i64 k/\cv=.int .i64 ((Q0N m Z.av (l.take k)).2:Nat)/\k+gk=n/\WaI Z fr N K M m l a w k Z1 wr)
 case atStart=>exact⟨0,Z,rfl,rfl,by omega,Cg.out⟩
 case round =>
  obtain⟨k,Z1,rfl,rfl,AH,hI⟩:=hrel;have Cv:=Q0a AH;have HI:=Q0a hI;by_cases Ab:k<n
  ·obtain⟨x,hx⟩:∃x,l[k]?=some x:=⟨l[k]'(by rw [HN.out];exact Ab),J4R (by rw [HN.out];exact Ab)⟩
   obtain⟨g,rfl,_,_,GD⟩:=hI.row k (.int .i64 x) (by rw [J4l,hx];rfl);have kw:=Z0E hI.st.sep hI.ok x m HM.out.1 HM.out.2 (by
    rcases hI.wk with h|h
    ·exact .inl h
    ·refine .inr (h [] x (l.drop (k+1)) ?_);obtain⟨Ab,hg⟩:=J2Q.1 hx;rw [<- hg];exact J5t Ab)
   rw [hI.same.s] at kw;have HW:=Q0a kw;have HX:=Q0a hx;have E8:=Gk.out k;have C2:(k:Int)<(n:Int):=by omega
   have Bs:(0:Int)<=(k:Int):=by omega
   have FJ:(k:Int)<70000:=by have:=E7.out;omega
   generalize A6:(Q0N m Z.av (l.take k)).2=c at *
   have CR:(c:Int)<=70000:=by have:=E7.out;omega
   have KU:(0:Int)<=(c:Int):=by omega
   have DH:=Q0a A6;clear hI AH kw hx E8 A6;go_wp2_with fail;refine HW.out.mono ?_;rintro r w1 ⟨b,rfl,hz⟩;obtain⟨BW,Z2,Ry⟩:=HI.out.next HX.out HM.out.2 hz;have R6:=Q0a Ry;rw [DH.out] at BW;have LA:=Q0a BW;clear BW Ry hz HW HI;cases b with
   | true =>
    go_wp2_with fail;go_roundg (n-(k+1))
    case measure=>have:=Cv.out;omega
    case rel=>exact⟨k+1,Z2,by go_num,by rw [LA.out];simp,by have:=Cv.out;omega,R6.out⟩
   | false =>
    go_wp2_with fail;go_roundg (n-(k+1))
    case measure=>have:=Cv.out;omega
    case rel=>exact⟨k+1,Z2,by go_num,by rw [LA.out];simp,by have:=Cv.out;omega,R6.out⟩
  ·obtain rfl:k=n:=by have:=Cv.out;omega
   have HR:Hid (((Q0N m Z.av (l.take k)).2=(Q0N m Z.av l).2)/\Q8g Z fr N K M m l w wr):=by
    have h1:l.take k=l:=by rw [<- HN.out,J6J]
    have h2:=hI.av;rw [h1] at h2;exact⟨by rw [h1],Z1,hI.ok,h2,hI.same,hI.st⟩
   rw [HR.out.1];clear hI AH;go_wp2_with fail
   first|exact⟨rfl,HR.out.2⟩|(go_ret;exact⟨rfl,HR.out.2⟩)
def Q9u (l:List Pl) (tb:Nat->TB) (x:Nat) (z:Int):Value:=match pget l 1 x with
 | none=>.tuple #[.agg #[.int .u32 0,.int .i64 0],.int .i64 8]
 | some p=>if p.kind=2 then (if 0<=z/\z<256 then (match Q0f l tb x z.toNat with
   | none=>.tuple #[.agg #[.int .u32 0,.int .i64 0],.int .i64 6]
   | some e=>.tuple #[.agg #[.int .u32 (e.h:Int),.int .i64 (e.r:Int)],.int .i64 0]) else .tuple #[.agg #[.int .u32 0,.int .i64 0],.int .i64 2]) else .tuple #[.agg #[.int .u32 0,.int .i64 0],.int .i64 10]
theorem Q9v {w:World} {Z:SP} {fr:List Nat} {N K:Nat} (hs:Sep w Z.hl) (ok:Z.S.Ok fr N K) {x:Nat} (hx:x<4294967296) (z e:Int) (he:e≠0) (hw:(pget Z.S.l 1 x=none/\e=8)∨∃p,pget Z.S.l 1 x=some p/\p.kind≠2/\e=10) :
  Calls prog 37 #[.pointer (some ⟨Z.s,0,none⟩),.int .u32 x,.int .i64 z] w (Told w (.tuple #[.agg #[.int .u32 0,.int .i64 0],.int .i64 e])):=by
 have b1:Below w.heap.size w (w.alloc (.cells #[.int .u32 0,.int .i64 0] 72)):=(Below.refl _ _).alloc (J2y _) _;have ks:=Q0I (hs.grown b1).sep ok hx e hw;have HC:Hid (∀w1,Below (w.alloc (.cells #[.int .u32 0,.int .i64 0] 72)).heap.size (w.alloc (.cells #[.int .u32 0,.int .i64 0] 72)) w1->(∀o,Cells (w1.alloc o) w.heap.size 72 [.int .u32 0,.int .i64 0])/\∀o a b,Below w.heap.size w (((w1.alloc o).setCell ⟨w.heap.size,0,none⟩ a).setCell ⟨w.heap.size,1,none⟩ b)):=fun w1 Av=>by
  have hR:=(Cells.new w 72 [.int .u32 0,.int .i64 0]).same (Av.block w.heap.size (by simp));exact⟨hR.alloc,fun o a b=>(((Q0e Av).alloc (Q0e Av).size o).setCell (J2y _) _).setCell (J2y _) _⟩
 have FI:(e==0)=false:=by simpa using he
 clear hs ok hx hw b1;go_enter func37,ntmps37;go_wp2_with fail;refine ks.mono ?_;rintro r w1 ⟨rfl,Av⟩;obtain⟨BJ,hz⟩:=HC.out w1 Av;have Ai:=BJ (.cells #[.pointer none,.int .u32 0,.int .i64 0] 191);have HZ:=Q0a hz;have e0:=Ai.cell 0 _ rfl;have e1:=Ai.cell 1 _ rfl;have f0:=Ai.free 0;have f1:=Ai.free 1;have Ab:=Ai.lt;clear Av hz Ai BJ HC ks;go_wp2_with fail;refine bodyPost_ret (v:=.tuple #[.agg #[.int .u32 0,.int .i64 0],.int .i64 e]) (by simp [results,results37,go_sem,e0,e1]) rfl ⟨rfl,HZ.out _ _ _⟩
theorem Z3f {w:World} {Z:SP} {fr:List Nat} {N K:Nat} {M:Int} (hs:Sep w Z.hl) (ok:Z.Ok fr N K M) {x:Nat} (hx:x<4294967296) {p:Pl} (hp:pget Z.S.l 1 x=some p) (hk:p.kind=2) (z:Int) :
  Calls prog 37 #[.pointer (some ⟨Z.s,0,none⟩),.int .u32 x,.int .i64 z] w (Told w (Q9u Z.S.l Z.tb x z)):=by
 have b1:Below w.heap.size w (w.alloc (.cells #[.int .u32 0,.int .i64 0] 72)):=(Below.refl _ _).alloc (J2y _) _;have s1:=(hs.grown b1).sep;have ks:=Q0V s1 ok.core hx hp hk;have hi:=(pget_some.1 hp).1;have Ao:=(pget_some.1 hp).2.2;have AA:(Z.tb (x%256)).at' z=if 0<=z/\z<256 then Q0f Z.S.l Z.tb x z.toNat else none:=by
  unfold TB.at';split
  ·rename_i h;rw [Q0g hp hk (by omega)]
  ·rfl
 have HC:Hid (∀(w2:World) (g:Nat),Below (w.alloc (.cells #[.int .u32 0,.int .i64 0] 72)).heap.size (w.alloc (.cells #[.int .u32 0,.int .i64 0] 72)) w2->TblZ Z p g w2 ->
   Cells (w2.alloc (.cells #[.pointer (some ⟨g,0,none⟩),.int .u32 x,.int .i64 (p.fac:Int)] 191)) w.heap.size 72 [.int .u32 0,.int .i64 0]/\(∀a b,Below w.heap.size w (((w2.alloc (.cells #[.pointer (some ⟨g,0,none⟩),.int .u32 x,.int .i64 (p.fac:Int)] 191)).setCell ⟨w.heap.size,0,none⟩ a).setCell ⟨w.heap.size,1,none⟩ b)) /\
   Calls prog 93 #[.agg #[.pointer (some ⟨g,0,none⟩),.int .u32 x,.int .i64 (p.fac:Int)],.int .i64 z] (w2.alloc (.cells #[.pointer (some ⟨g,0,none⟩),.int .u32 x,.int .i64 (p.fac:Int)] 191)) (fun r w4=>r=.returned (capV ((Z.tb (x%256)).at' z)) /\
    (∀o,Cells (w4.alloc o) w.heap.size 72 [.int .u32 0,.int .i64 0])/\∀o a b,Below w.heap.size w (((w4.alloc o).setCell ⟨w.heap.size,0,none⟩ a).setCell ⟨w.heap.size,1,none⟩ b))):=fun w2 g Ag hg=>by
  have hR:=(Cells.new w 72 [.int .u32 0,.int .i64 0]).same (Ag.block w.heap.size (by simp));have Db:Below w.heap.size w w2:=Q0e Ag;have Ar:Below w2.heap.size w2 (w2.alloc (.cells #[.pointer (some ⟨g,0,none⟩),.int .u32 x,.int .i64 (p.fac:Int)] 191)):=(Below.refl _ _).alloc (J2y _) _;have BE:=Db.alloc Db.size (.cells #[.pointer (some ⟨g,0,none⟩),.int .u32 x,.int .i64 (p.fac:Int)] 191);have s2:=(hs.grown Db).sep;have s3:=(s2.grown Ar).sep;have T:=(ok.tpi.x (p.fac:Int)).tt ok.core hi Ao hk (SP.sS s3) (hg.grown s2 Ar).c;refine⟨hR.alloc _,fun a b=>(BE.setCell (J2y _) _).setCell (J2y _) _,(Q1t T (x:Int) (p.fac:Int) z fun e he=>?_).mono ?_⟩
  ·rw [AA] at he;split at he
   ·exact ok.fpi.low ok.core.inv.lok he
   ·cases he
  ·rintro r w4 ⟨rfl,AC⟩;have Vj:=(hR.alloc _).same (AC.block w.heap.size (hR.alloc _).lt);have DK:Below w.heap.size w w4:=BE.trans (AC.mono BE.size);exact⟨rfl,Vj.alloc,fun o a b=>((DK.alloc DK.size o).setCell (J2y _) _).setCell (J2y _) _⟩
 have hv:Q9u Z.S.l Z.tb x z=if 0<=z/\z<256 then (match (Z.tb (x%256)).at' z with
   | none=>.tuple #[.agg #[.int .u32 0,.int .i64 0],.int .i64 6]
   | some e=>.tuple #[.agg #[.int .u32 (e.h:Int),.int .i64 (e.r:Int)],.int .i64 0]) else .tuple #[.agg #[.int .u32 0,.int .i64 0],.int .i64 2]:=by
  unfold Q9u;rw [hp];simp only;rw [if_pos hk,AA];by_cases h:0<=z/\z<256
  ·simp only [if_pos h]
  ·simp only [if_neg h]
 rw [hv];have AW:Hid (∀w,Calls prog 92 #[.int .i64 z] w fun r w'=>r=.returned (.bool (decide (0<=z/\z<256)))/\w=w'):=fun w=>Q2Q w z
 clear hs ok hx hp hk hi Ao AA hv b1 s1;by_cases hz:0<=z/\z<256
 ·rw [if_pos hz];rw [decide_eq_true hz] at AW;cases ho:(Z.tb (x%256)).at' z with
  | none =>
   rw [ho] at HC;simp only [capV] at HC;simp only;clear ho hz;go_enter func37,ntmps37;go_wp2_with fail;refine ks.mono ?_;rintro r w2 ⟨g,rfl,Ag,hg⟩;obtain⟨-,-,kc⟩:=HC.out w2 g Ag hg;have hh:=AW.out (w2.alloc (.cells #[.pointer (some ⟨g,0,none⟩),.int .u32 x,.int .i64 (p.fac:Int)] 191));clear Ag hg HC ks;go_wp2_with fail;refine hh.mono ?_;rintro r w3 ⟨rfl,rfl⟩;go_wp2_with fail;refine kc.mono ?_;rintro r w4 ⟨rfl,BJ,hz⟩;have Ai:=BJ (.cells #[.int .u32 0,.int .i64 0] 72);have HZ:=Q0a hz;have e0:=Ai.cell 0 _ rfl;have e1:=Ai.cell 1 _ rfl;have f0:=Ai.free 0;have f1:=Ai.free 1;have Ab:=Ai.lt
   clear hz Ai BJ kc hh AW;go_wp2_with fail;refine bodyPost_ret (v:=.tuple #[.agg #[.int .u32 0,.int .i64 0],.int .i64 6]) (by simp [results,results37,go_sem,e0,e1]) rfl ⟨rfl,HZ.out _ _ _⟩
  | some e =>
   rw [ho] at HC;simp only [capV] at HC;simp only;clear ho hz;generalize (e.h:Int)=eh at *
   generalize (e.r:Int)=er at *
   go_enter func37,ntmps37;go_wp2_with fail;refine ks.mono ?_;rintro r w2 ⟨g,rfl,Ag,hg⟩;obtain⟨-,-,kc⟩:=HC.out w2 g Ag hg;have hh:=AW.out (w2.alloc (.cells #[.pointer (some ⟨g,0,none⟩),.int .u32 x,.int .i64 (p.fac:Int)] 191));clear Ag hg HC ks;go_wp2_with fail;refine hh.mono ?_;rintro r w3 ⟨rfl,rfl⟩;go_wp2_with fail;refine kc.mono ?_;rintro r w4 ⟨rfl,BJ,hz⟩;have Ai:=BJ (.cells #[.int .u32 eh,.int .i64 er] 72);have HZ:=Q0a hz;have e0:=Ai.cell 0 _ rfl;have e1:=Ai.cell 1 _ rfl;have f0:=Ai.free 0;have f1:=Ai.free 1;have Ab:=Ai.lt;clear hz Ai BJ kc hh AW;go_wp2_with fail
   refine bodyPost_ret (v:=.tuple #[.agg #[.int .u32 eh,.int .i64 er],.int .i64 0]) (by simp [results,results37,go_sem,e0,e1]) rfl ⟨rfl,HZ.out _ _ _⟩
 ·rw [if_neg hz];rw [decide_eq_false hz] at AW;clear hz;go_enter func37,ntmps37;go_wp2_with fail;refine ks.mono ?_;rintro r w2 ⟨g,rfl,Ag,hg⟩;obtain⟨Ai,hz,-⟩:=HC.out w2 g Ag hg;have hh:=AW.out (w2.alloc (.cells #[.pointer (some ⟨g,0,none⟩),.int .u32 x,.int .i64 (p.fac:Int)] 191));have HZ:=Q0a hz;have e0:=Ai.cell 0 _ rfl;have e1:=Ai.cell 1 _ rfl;have f0:=Ai.free 0;have f1:=Ai.free 1;have Ab:=Ai.lt;clear Ag hg HC ks hz Ai AW;go_wp2_with fail;refine hh.mono ?_;rintro r w3 ⟨rfl,rfl⟩;go_wp2_with fail;refine bodyPost_ret (v:=.tuple #[.agg #[.int .u32 0,.int .i64 0],.int .i64 2]) (by simp [results,results37,go_sem,e0,e1]) rfl ⟨rfl,HZ.out _ _⟩
theorem Z6m {w:World} {Z:SP} {fr:List Nat} {N K:Nat} {M:Int} (hs:Sep w Z.hl) (ok:Z.Ok fr N K M) {x:Nat} (hx:x<4294967296) (z:Int) :
  Calls prog 37 #[.pointer (some ⟨Z.s,0,none⟩),.int .u32 x,.int .i64 z] w (Told w (Q9u Z.S.l Z.tb x z)):=by
 cases hp:pget Z.S.l 1 x with
 | none =>
  have:=Q9v hs ok.core hx z 8 (by decide) (.inl ⟨hp,rfl⟩);unfold Q9u;rw [hp];exact this
 | some p =>
  by_cases hk:p.kind=2
  ·exact Z3f hs ok hx hp hk z
  ·have:=Q9v hs ok.core hx z 10 (by decide) (.inr ⟨p,hp,hk,rfl⟩);unfold Q9u;rw [hp];simp only [if_neg hk];exact this
end Go.Proofs.YtfidemmgofcnmaaGreatDoor
