/- What the laws of spaces share is proved. No condition. Part of a proof. -/
import Derived.Test.YtfidemmgofcnmaaGreatDoorBz27
set_option maxHeartbeats 16000000
set_option maxRecDepth 100000
set_option linter.unusedVariables false
namespace Go.Proofs.YtfidemmgofcnmaaGreatDoor
open Go.RowKit Go.Proofs.Tryz
def GoesZ(Z:SP)(N K:Nat)(M:Int)(w w':World):Prop:=∃(Z':SP) (fr':List Nat),Z'.Ok fr' N K M/\J1N Z Z'/\Step Z.hl Z'.hl w w'
theorem GoesZ.mono{Z:SP}{N N' K K':Nat}{M M':Int}{w w':World}(h:GoesZ Z N K M w w')(h1:N<=N')(h2:K<=K')(h3:M<=M'):GoesZ Z N' K' M' w w':=by
 obtain⟨Z',fr',a,b,c⟩:=h;exact⟨Z',fr',a.mono h1 h2 h3,b,c⟩
section
variable {Z:SP} {fr:List Nat} {N K:Nat} {M:Int} {w w':World}
theorem GoesZ.same{Z':SP}(ok:Z'.Ok fr N K M)(s:SameZ Z Z')(st:Step Z.hl Z'.hl w w'):GoesZ Z N K M w w':=⟨Z',fr,ok,s.toSameN.gone,st⟩
theorem BackZ.goes(ok:Z.Ok fr N K M){y:Nat}{own:Int}(h:BackZ Z fr N K y own w w'):GoesZ Z N K M w w':=by
 obtain⟨Z',a,_,b,c⟩:=h.ok ok;exact .same a b c
theorem MoveR.goes(ok:Z.Ok fr N K M){x y n:Nat}{A:Nat->Mv}{er:Int}(R:MoveR Z fr N K M x y n A w er w'):GoesZ Z N K (M+n) w w':=by
 rcases R with ⟨_,_,own,h⟩|⟨p1,p2,_,_,_,_,_,⟨_,a,Z',_,_,h1,h2,_,h3⟩|⟨_,_,h⟩⟩
 ·exact(h.goes ok).mono (J3h _) (J3h _) (by omega)
 ·exact⟨Z',fr,h1,h2.gone,h3⟩
 ·exact(h.goes ok).mono (J3h _) (J3h _) (by omega)
end
theorem Q7G(m:List Nat)(p:Nat):∀k l,itemsB m p k=some l->∀i∈l,Q0W i=true
 | 0,l,h=>by cases h;intro i hi;cases hi
 | k+1,l,h=>by
  rw[itemsB] at h;cases h1:itemsB m p k with
  | none=>rw[h1] at h;cases h
  | some l1 =>
   rw[h1] at h;cases h2:Q4N (Q0o m p (11+k)) with
   | none=>rw[h2] at h;cases h
   | some i =>
    rw[h2] at h;cases h;intro j hj;rcases J3Q.1 hj with hj|hj
    ·exact Q7G m p k l1 h1 j hj
    ·rw[J5i.1 hj];exact(Z6S h2).1
theorem Q8p(m:List Nat)(p:Nat):(msgV m p).its.length<=2/\∀i∈(msgV m p).its,Q0W i=true:=by
 unfold msgV;split
 ·exact⟨by simp[Msg.none],by simp[Msg.none]⟩
 ·rename_i hc;split
  ·rename_i l hl;exact⟨by rw[Q4P _ _ _ _ hl];omega,Q7G _ _ _ _ hl⟩
  ·exact⟨by simp[Msg.none],by simp[Msg.none]⟩
theorem Z9I{i:It}(h:Q0W i=true):i.Wf:=by
 have:=Q3v h;exact⟨⟨by omega,by omega⟩,⟨by omega,by omega⟩,⟨by omega,by omega⟩,⟨by omega,by omega⟩⟩
theorem J1O(m:List Nat)(p:Nat):(winV m p).Wf:=by
 unfold winV;split
 ·rename_i h;have:=Q1V h.2;exact⟨⟨by dsimp only;omega,by dsimp only;omega⟩,⟨by dsimp only;omega,by dsimp only;omega⟩⟩
 ·exact⟨⟨by decide,by decide⟩,⟨by decide,by decide⟩⟩
theorem Z9J(Z:SP)(x:Nat)(v:Wi)(its:List It)(h:∀i∈its,Q5e Z x v i):∀m∈Q1g Z x v its,m.Wf:=fun m hm=>by
 obtain⟨i,hi,Dw⟩:=J3G.1 hm;obtain⟨p,_,_,ha,_⟩:=h i hi;have AQ:Q0v i.base i.order=true/\Q0v v.base v.order=true/\1<=i.r/\i.r<=15/\0<=i.off/\i.off<256:=by
  unfold Q3g Q0W at ha;simp only[J3C,decide_eq_true_eq] at ha;exact⟨ha.1.1,ha.2.1,ha.1.2⟩
 obtain⟨q1,q2,q3,q4,q5⟩:=Q0L AQ.1;obtain⟨r1,r2,r3,r4,r5⟩:=Q0L AQ.2.1;unfold movV at Dw;obtain⟨k,BC,e⟩:=J3n.1 Dw;have Ax:=J3x.1 (J3B.1 BC).1;rw[<- e];unfold itMv;exact⟨⟨by dsimp only;omega,by dsimp only;omega⟩,⟨by dsimp only;omega,by dsimp only;omega⟩,⟨by dsimp only;omega,by dsimp only;omega⟩⟩
def carL(Z:SP)(tf:Nat)(p p':Pl):List Mv:=Q1g Z tf (winV Z.S.P.a.mem p'.at_) (msgV Z.S.P.a.mem p.at_).its
def carA(Z:SP)(tf:Nat)(p p':Pl):Nat->Mv:=fun j=>(carL Z tf p p').getD j noMv
def CarE(Z:SP)(tf:Nat)(af:Int)(tt:Nat)(at_ er:Int):Prop:=blkE Z tf af=er∨(blkE Z tf af=0/\blkE Z tt at_=er)∨∃p p',BlkAt Z tf af p/\BlkAt Z tt at_ p'/\∃i∈(msgV Z.S.P.a.mem p.at_).its,MvsE Z tf i (winV Z.S.P.a.mem p'.at_) er
def CCarR(Z:SP)(fr:List Nat)(N K:Nat)(M:Int)(tf:Nat)(af:Int)(tt:Nat)(at_:Int)(lb:Nat)(w:World)(r:Ending)(w':World):Prop:=
 (∃er:Int,er≠0/\r=.returned (.int .i64 er)/\Below w.heap.size w w'/\CarE Z tf af tt at_ er) ∨
 ∃p p',BlkAt Z tf af p/\BlkAt Z tt at_ p'/\(∀i∈(msgV Z.S.P.a.mem p.at_).its,Q5e Z tf (winV Z.S.P.a.mem p'.at_) i) /\
  ((∃(er:Int) (w5:World),er≠0/\r=.returned (.int .i64 er)/\Below w.heap.size w w5/\MoveR Z fr N K M tf tt (carL Z tf p p').length (carA Z tf p p') w5 er w') ∨
   (r=.returned (.int .i64 0)/\∃(a:AV) (Z1:SP),AllFit Z.av.en tf tt (carL Z tf p p').length (carA Z tf p p')/\AddsM tf tt (carA Z tf p p') Z.av Z.F.next (carL Z tf p p').length a/\Q2j tf (carA Z tf p p') a (carL Z tf p p').length Z1.av/\SameN Z Z1/\Z1.F.next=Z.F.next+(carL Z tf p p').length/\Z1.Ok fr N K (M+(carL Z tf p p').length) /\
    (Z1.poke (putM Z1.S.P.a.mem p'.at_ ⟨lb,(msgV Z1.S.P.a.mem p.at_).ws,[]⟩)).Ok fr N K (M+(carL Z tf p p').length)/\Step Z.hl (Z1.poke (putM Z1.S.P.a.mem p'.at_ ⟨lb,(msgV Z1.S.P.a.mem p.at_).ws,[]⟩)).hl w w'))
theorem CMvR.shape{Z:SP}{x:Nat}{v:Wi}{its:List It}{w w':World}{r:Ending}(hs:Sep w Z.hl)(h:CMvR Z x v its w r w'):Below w.heap.size w w'/\∃(a:Option Addr) (n cap:Nat) (er:Int),r=.returned (.tuple #[.slice a n cap,.int .i64 er]) /\
  ((er≠0/\∃i∈its,MvsE Z x i v er)∨(er=0/\(∀i∈its,Q5e Z x v i)/\n=(Q1g Z x v its).length/\n<=cap/\AsideM Z.hl n (fun j=>(Q1g Z x v its).getD j noMv) a w')):=by
 rcases h with ⟨er,i,h0,hi,he,rfl,hb⟩|⟨hf,ov,rfl,ho⟩
 ·exact⟨hb,none,0,0,er,rfl,.inl ⟨h0,i,hi,he⟩⟩
 ·obtain⟨a,cap,rfl,AW,hA⟩:=ho.aside hs (Z9J Z x v its hf);exact⟨ho.2,a,_,cap,0,rfl,.inr ⟨rfl,hf,rfl,AW,hA⟩⟩
theorem Q1X{w:World}{Z:SP}{fr:List Nat}{N K:Nat}{M:Int}(ok:Z.Ok fr N K M)(h:Sep w Z.hl)(hM:M+256<1099511627776){c k:Nat}(hc:CarC Z c k w){tf tt:Nat}(htf:tf<4294967296)(htt:tt<4294967296)(af at_:Int)(haf:af<9223372036854775808)(Bb:at_<9223372036854775808){lb:Nat}(FG:lb<18446744073709551616) :
  Calls prog 54 #[.pointer (some ⟨c,0,none⟩),.agg #[.int .u32 tf,.int .i64 af],.agg #[.int .u32 tt,.int .i64 at_],.int .u64 lb] w (CCarR Z fr N K M tf af tt at_ lb w):=by
 have b1:Below w.heap.size w (w.alloc (.cells #[.int .u32 tf,.int .i64 af] 116)):=(Below.refl _ _).alloc (J3h _) _;have b2:Below w.heap.size w ((w.alloc (.cells #[.int .u32 tf,.int .i64 af] 116)).alloc (.cells #[.int .u32 tt,.int .i64 at_] 116)):=b1.alloc b1.size _;have c1:=(Cells.new w 116 [.int .u32 tf,.int .i64 af]).alloc (.cells #[.int .u32 tt,.int .i64 at_] 116);have c2:=Cells.new (w.alloc (.cells #[.int .u32 tf,.int .i64 af] 116)) 116 [.int .u32 tt,.int .i64 at_];have hz:(w.alloc (.cells #[.int .u32 tf,.int .i64 af] 116)).heap.size=w.heap.size+1:=by simp
 rw[hz] at c2;have DF:=Q0a c1;have DA:=Q0a c2;have VR:Hid (∀b,w.heap.size<=b->b∉keys Z.hl):=fun b hb hk=>by have:=h.lt hk;omega
 have x0:=c1.cell 0 _ rfl;have x1:=c1.cell 1 _ rfl;have y0:=c2.cell 0 _ rfl;have y1:=c2.cell 1 _ rfl;have NK:=Q2w ok (h.grown b2).sep (hc.step rfl (h.grown b2)) htf af haf
 -- what holds of every world that only grew behind the two boxes
 have HV:Hid (∀V,Below ((w.alloc (.cells #[.int .u32 tf,.int .i64 af] 116)).alloc (.cells #[.int .u32 tt,.int .i64 at_] 116)).heap.size ((w.alloc (.cells #[.int .u32 tf,.int .i64 af] 116)).alloc (.cells #[.int .u32 tt,.int .i64 at_] 116)) V->Below w.heap.size w V/\Sep V Z.hl/\((V.cell? ⟨c,0,none⟩=some (.pointer (some ⟨k,0,none⟩))/\V.cell? ⟨k,0,none⟩=some (.pointer (some ⟨Z.s,0,none⟩)))/\V.cell? ⟨w.heap.size,0,none⟩=some (.int .u32 tf)/\V.cell? ⟨w.heap.size+1,0,none⟩=some (.int .u32 tt))/\V.cell? ⟨w.heap.size+1,1,none⟩=some (.int .i64 at_) /\
   Calls prog 115 #[.pointer (some ⟨c,0,none⟩),.agg #[.int .u32 tt,.int .i64 at_]] V (BlkR Z tt at_ V)):=fun V hV=>by
  have hb:=Q0b (Q0b hV);have s1:=h.grown hb;have e1:=DF.out.same (hV.block _ DF.out.lt);have e2:=DA.out.same (hV.block _ DA.out.lt);exact⟨hb,s1.sep,⟨(hc.step rfl s1).cells,e1.cell 0 _ rfl,e2.cell 0 _ rfl⟩,e2.cell 1 _ rfl,Q2w ok s1.sep (hc.step rfl s1) htt at_ Bb⟩
 have JL:Hid (∀V,Below w.heap.size w V->blkE Z tf af≠0->CCarR Z fr N K M tf af tt at_ lb w (.returned (.int .i64 (blkE Z tf af))) V):=fun V hV he=>.inl ⟨_,he,rfl,hV,.inl rfl⟩
 have Dr:Hid (∀V,Below w.heap.size w V->blkE Z tf af=0->blkE Z tt at_≠0->CCarR Z fr N K M tf af tt at_ lb w (.returned (.int .i64 (blkE Z tt at_))) V):=fun V hV h0 he=>.inl ⟨_,he,rfl,hV,.inr (.inl ⟨h0,rfl⟩)⟩
 unfold BlkR at NK;generalize hW0:((w.alloc (.cells #[.int .u32 tf,.int .i64 af] 116)).alloc (.cells #[.int .u32 tt,.int .i64 at_] 116))=W0 at *
 -- all that is asked when both blocks are there
 have HP:Hid (∀V p g p' g',Below W0.heap.size W0 V->BlkAt Z tf af p->BlkAt Z tt at_ p'->BlkC Z p g V->BlkC Z p' g' V ->
   (Calls prog 117 #[.pointer (some ⟨g',0,none⟩)] V (Told V (.agg #[.int .i64 (winV Z.S.P.a.mem p'.at_).base,.int .i64 (winV Z.S.P.a.mem p'.at_).order]))) /\
   (Calls prog 116 #[.pointer (some ⟨g,0,none⟩)] V fun r V1=>∃(l:Int) (a1:Option Addr) (n1 c1:Nat) (a2:Option Addr) (c2:Nat),r=.returned (.agg #[.int .u64 l,.slice a1 n1 c1,.slice a2 (msgV Z.S.P.a.mem p.at_).its.length c2])/\Below V.heap.size V V1 /\
    Calls prog 118 #[.pointer (some ⟨c,0,none⟩),.int .u32 tf,.agg #[.int .i64 (winV Z.S.P.a.mem p'.at_).base,.int .i64 (winV Z.S.P.a.mem p'.at_).order],.slice a2 (msgV Z.S.P.a.mem p.at_).its.length c2] V1 fun r V2=>Below V1.heap.size V1 V2/\∃(a:Option Addr) (n cap:Nat) (er:Int),r=.returned (.tuple #[.slice a n cap,.int .i64 er]) /\
     ((er≠0/\CCarR Z fr N K M tf af tt at_ lb w (.returned (.int .i64 er)) V2) ∨
      (er=0/\Calls prog 39 #[.pointer (some ⟨Z.s,0,none⟩),.int .u32 tf,.int .u32 tt,.slice a n cap] V2.drew fun r V3=>∃e3:Int,r=.returned (.int .i64 e3)/\((V3.cell? ⟨c,0,none⟩=some (.pointer (some ⟨k,0,none⟩))/\V3.cell? ⟨k,0,none⟩=some (.pointer (some ⟨Z.s,0,none⟩)))/\V3.cell? ⟨w.heap.size,0,none⟩=some (.int .u32 tf)/\V3.cell? ⟨w.heap.size+1,0,none⟩=some (.int .u32 tt)) /\
       ((e3≠0/\CCarR Z fr N K M tf af tt at_ lb w (.returned (.int .i64 e3)) V3) ∨
       (e3=0/\Calls prog 119 #[.pointer (some ⟨g,0,none⟩),.pointer (some ⟨g',0,none⟩),.int .u64 lb] V3 fun r V4=>r=.returned (.int .i64 0)/\CCarR Z fr N K M tf af tt at_ lb w (.returned (.int .i64 0)) V4)))))):=fun V p g p' g' hV hp AG hg FE=>by
  obtain⟨R3,sV,_,_,_⟩:=HV.out V hV;refine⟨Q9N ok sV AG.2.1 AG.2.2.1 AG.2.2.2.1 FE,(Q6s ok sV hp.2.1 hp.2.2.1 hp.2.2.2.1 hg).mono ?_⟩;rintro r V1⟨rw_,ri,rfl,o1,o2,st⟩;obtain⟨a1,n1,k1,e1⟩:=Q1u rw_ (msgV Z.S.P.a.mem p.at_).ws.length;obtain⟨a2,k2,e2,hI⟩:=Z7g o2 st;rw[e1,e2];have Aq:=st.fresh;have OF:Below W0.heap.size W0 V1:=hV.trans (Aq.mono hV.size);have s1:=(HV.out V1 OF).2.1;have Fq:=Q8p Z.S.P.a.mem p.at_;have R5:=hc.step rfl (h.grown (HV.out V1 OF).1);refine⟨_,a1,n1,k1,a2,k2,rfl,Aq,(Z0W ok s1 R5 htf (winV Z.S.P.a.mem p'.at_) (J1O _ _) k2 hI (fun i hi=>Z9I (Fq.2 i hi)) (by have:=Fq.1;omega)).mono ?_⟩
  intro r V2 hm;obtain⟨Ae,a,n,cap,er,rfl,Ay⟩:=hm.shape s1;refine⟨Ae,a,n,cap,er,rfl,?_⟩;have Lo:Below W0.heap.size W0 V2:=OF.trans (Ae.mono OF.size);obtain⟨IK,s2,_,_,_⟩:=HV.out V2 Lo;rcases Ay with ⟨h0,i,hi,he⟩|⟨rfl,CE,hn,AW,hA⟩
  ·exact .inl ⟨h0,.inl ⟨er,h0,rfl,IK,.inr (.inr ⟨p,p',hp,AG,i,hi,he⟩)⟩⟩
  ·refine .inr ⟨rfl,?_⟩;have Ab:=Q4u Z tf (winV Z.S.P.a.mem p'.at_) _ CE;have G7:n<=256:=by have:=Fq.1;omega
   have Po:n=(carL Z tf p p').length:=hn;have UH:AsideM Z.hl n (carA Z tf p p') a V2.drew:=hA.step ((Step.refl s2).drew);refine(Q9H s2.drew ok (by omega) htf htt (by omega) AW UH).mono ?_;rintro r V3⟨e3,rfl,hR⟩;have Eu:=hR.goes ok;obtain⟨Zg,frg,okg,gg,stg⟩:=Eu;have st2:Step Z.hl Zg.hl V2 V3:=stg.from_drew;have keep:∀b,w.heap.size<=b->b<V2.heap.size->V3.heap[b]?=V2.heap[b]?:=fun b hb hl=>st2.chg.block b hl (VR.out b hb)
   have q1:=DF.out.same (Lo.block _ DF.out.lt);have q2:=DA.out.same (Lo.block _ DA.out.lt);have q3:=q1.same (keep _ (J3h _) q1.lt);have q4:=q2.same (keep _ (J7p _) q2.lt);have Dg:=(hc.step rfl (h.grown IK)).step gg.s st2;have A7:=Dg.cells;rw[gg.s] at A7;refine⟨e3,rfl,⟨A7,q3.cell 0 _ rfl,q4.cell 0 _ rfl⟩,?_⟩;rw[Po] at hR;by_cases h3:e3=0
   ·subst h3;refine .inr ⟨rfl,?_⟩;rcases hR with ⟨h0,_⟩|⟨p1,p2,_,_,_,_,Af,Qa⟩
    ·exact(h0 rfl).elim
    ·rcases Qa with ⟨_,VY⟩|⟨h0,_⟩
     ·obtain⟨av1,Z1,AZ,Ca,ok1,sm,Bs,st3⟩:=VY;have st4:Step Z.hl Z1.hl V2 V3:=st3.from_drew;have ea:Z1.S.P.a.a=Z.S.P.a.a:=sm.alt.same.aa;have CY:Below V.heap.size V V2:=Aq.trans (Ae.mono Aq.size);have bg:BlkC Z1 p g V3:=by
       have:=AsideV.step (AsideV.step hg (sV.grown CY)) st4;unfold BlkC;rw[ea];exact this
      have bg':BlkC Z1 p' g' V3:=by
       have:=AsideV.step (AsideV.step FE (sV.grown CY)) st4;unfold BlkC;rw[ea];exact this
      have A3:p∈Z1.S.l:=by rw[sm.alt.l];exact hp.2.1
      have Jb:p'∈Z1.S.l:=by rw[sm.alt.l];exact AG.2.1
      refine(Z3R ok1 st4.sep A3 hp.2.2.1 hp.2.2.2.1 bg Jb AG.2.2.1 AG.2.2.2.1 bg' FG).mono ?_;rintro r V4⟨rfl,ok4,st5⟩;exact⟨rfl,.inr ⟨p,p',hp,AG,CE,.inr ⟨rfl,av1,Z1,Af,AZ,Ca,sm,Bs,ok1,ok4,(h.grown IK).trans (st4.trans st5)⟩⟩⟩
     ·omega
   ·exact .inl ⟨h3,.inr ⟨p,p',hp,AG,CE,.inl ⟨e3,V2.drew,h3,rfl,IK.drew,hR⟩⟩⟩
 have Bg:Hid (∀V,Below W0.heap.size W0 V->Below w.heap.size w V):=fun V hV=>(HV.out V hV).1
 generalize CCarR Z fr N K M tf af tt at_ lb w=Q at *
 clear b1 b2 c1 c2 hz ok h hc htf htt haf Bb FG hM;go_enter func54,ntmps54;go_wp2_with fail;refine NK.mono ?_;rintro r w2⟨Ae,hr⟩;clear hW0;rcases hr with ⟨he,rfl⟩|⟨he,p,g,hp,hi,hk,BG,rfl,hg⟩
 ·have HR:=Q0a (JL.out w2 (Bg.out w2 Ae) he);clear JL Dr HP HV Bg Ae NK;generalize blkE Z tf af=E1 at *
  have Ac:(E1 != 0)=true:=by simp[he]
  go_wp2_with fail
  (try go_ret2);exact HR.out
 have EE:=Q0a Ae;have Ov:Hid (BlkAt Z tf af p/\BlkC Z p g w2):=⟨⟨he,hp,hi,hk,BG⟩,hg⟩
 have Lf:Hid (∀V,Below w.heap.size w V->blkE Z tt at_≠0->Q (.returned (.int .i64 (blkE Z tt at_))) V):=fun V hV h0=>Dr.out V hV he h0
 obtain⟨-,s2,⟨⟨c2,k2⟩,-,y2⟩,y3,Nr⟩:=HV.out w2 Ae;have O4:=Q0a s2;unfold BlkR at Nr;clear Ae hp hi hk BG hg he JL Dr NK s2;go_wp2_with fail;refine Nr.mono ?_;rintro r w3⟨Am,hr⟩;have Be:Below W0.heap.size W0 w3:=EE.out.trans (Am.mono EE.out.size);rcases hr with ⟨he,rfl⟩|⟨he,p',g',hp,hi,hk,BG,rfl,hg⟩
 ·have HR:=Q0a (Lf.out w3 (Bg.out w3 Be) he);clear Lf HP HV Bg Am Be Nr Ov O4;generalize blkE Z tt at_=E2 at *
  have Ac:(E2 != 0)=true:=by simp[he]
  go_wp2_with fail
  (try go_ret2);exact HR.out
 have HQ:Hid (∀V,Below w3.heap.size w3 V->_):=fun V hV=>HP.out V p g p' g' (Be.trans (hV.mono Be.size)) Ov.out.1 ⟨he,hp,hi,hk,BG⟩ (AsideV.step Ov.out.2 (O4.out.grown (Am.trans (hV.mono Am.size)))) (AsideV.step hg ((O4.out.grown Am).sep.grown hV))
 have HS:Hid (∀V,Below w3.heap.size w3 V->((V.cell? ⟨c,0,none⟩=some (.pointer (some ⟨k,0,none⟩))/\V.cell? ⟨k,0,none⟩=some (.pointer (some ⟨Z.s,0,none⟩)))/\V.cell? ⟨w.heap.size,0,none⟩=some (.int .u32 tf)/\V.cell? ⟨w.heap.size+1,0,none⟩=some (.int .u32 tt))):=fun V hV=>(HV.out V (Be.trans (hV.mono Be.size))).2.2.1
 have F4:Hid (Below w3.heap.size w3 w3):=Below.refl _ _;have OO:Hid (Below w3.heap.size w3 w3.drew):=(Below.refl _ _).drew;clear Lf HP HV Bg Am Be Nr Ov O4 EE he hp hi hk BG hg c2 k2 y2 y3;generalize (winV Z.S.P.a.mem p'.at_).base=vb at *
 generalize (winV Z.S.P.a.mem p'.at_).order=vo at *
 generalize (msgV Z.S.P.a.mem p.at_).its.length=nI at *
 go_upto_region 7 with fail
 go_region_held3 (fun V=>V.cell? ⟨w.heap.size,0,none⟩=some (.int .u32 tf)) (first|exact(HS.out _ F4.out).2.1|exact(HS.out _ OO.out).2.1|exact x4|exact x5|exact x6) (first|(go_at_call 117;refine(HQ.out _ OO.out).1.mono ?_;rintro rv w4⟨rfl,Av⟩;have Ag:=Q0a (OO.out.trans (Av.mono OO.out.size));have x4:=(HS.out _ Ag.out).2.1;clear Av)|(go_at_call 116;refine(HQ.out _ Ag.out).2.mono ?_;rintro rv w5⟨l,a1,n1,c1,a2,c2,rfl,As,BI⟩;have BQ:=Q0a (Ag.out.trans (As.mono Ag.out.size));have x5:=(HS.out _ BQ.out).2.1;have Un:=Q0a BI;have FC:=fun W=>J1M W l a1 a2 n1 c1 nI c2;clear As BI)|(go_at_call 118;refine Un.out.mono ?_;rintro rv w6⟨BW,a6,n6,c6,er,rfl,Ay⟩;have IO:=Q0a (BQ.out.trans (BW.mono BQ.out.size));have x6:=(HS.out _ IO.out).2.1;have I4:=Q0a Ay;clear BW Ay))
 all_goals
  clear x4 x5 x6 Un Ag BQ HQ FC;by_cases h0:er=0
  case neg =>
   have Ac:(er != 0)=true:=by simp[h0]
   have HR:Hid (Q (.returned (.int .i64 er)) w6):=by
    refine Q0a ?_;rcases I4.out with ⟨_,hq⟩|⟨hq,_⟩
    ·exact hq
    ·exact(h0 hq).elim
   clear I4 HS IO h0;go_wp2_with fail
   (try go_ret2);exact HR.out
  case pos =>
   subst h0;have Js:=Q0a (I4.out.resolve_left (fun hq=>hq.1 rfl)).2;have S6:=Q0a (HS.out w6 IO.out);have S6d:=Q0a (HS.out w6.drew IO.out.drew);clear I4 HS IO;go_upto_region 10 with fail
   go_region_held3 (fun V=>(V.cell? ⟨c,0,none⟩=some (.pointer (some ⟨k,0,none⟩))/\V.cell? ⟨k,0,none⟩=some (.pointer (some ⟨Z.s,0,none⟩)))/\V.cell? ⟨w.heap.size,0,none⟩=some (.int .u32 tf)/\V.cell? ⟨w.heap.size+1,0,none⟩=some (.int .u32 tt)) (first|exact S6.out|exact S6d.out|exact x7) (first|(go_at_call 39;refine Js.out.mono ?_;rintro rv w7⟨e3,rfl,x7,Ay⟩;have I4:=Q0a Ay;clear Ay))
   all_goals
    clear x7 S6 S6d Js;by_cases h3:e3=0
    case neg =>
     have Ac:(e3 != 0)=true:=by simp[h3]
     have HR:Hid (Q (.returned (.int .i64 e3)) w7):=by
      refine Q0a ?_;rcases I4.out with ⟨_,hq⟩|⟨hq,_⟩
      ·exact hq
      ·exact(h3 hq).elim
     clear I4 h3;go_wp2_with fail
     (try go_ret2);exact HR.out
    case pos =>
     subst h3;have Jl:=Q0a (I4.out.resolve_left (fun hq=>hq.1 rfl)).2;clear I4;go_wp2_with fail;refine Jl.out.mono ?_;rintro rv w8⟨rfl,hq⟩;have HR:=Q0a hq;clear hq Jl;go_wp2_with fail
     (try go_ret2);exact HR.out
theorem J2I{w:World}{c k s t:Nat}{z right off n er:Int}(c0:w.cell? ⟨c,0,none⟩=some (.pointer (some ⟨k,0,none⟩)))(k0:w.cell? ⟨k,0,none⟩=some (.pointer (some ⟨s,0,none⟩)))(he:er≠0)
  (kL:Calls prog 37 #[.pointer (some ⟨s,0,none⟩),.int .u32 t,.int .i64 z] w (Told w (.tuple #[.agg #[.int .u32 0,.int .i64 0],.int .i64 er]))) :
  Calls prog 111 #[.pointer (some ⟨c,0,none⟩),.int .u32 t,.int .i64 z,.int .i64 right,.int .i64 off,.int .i64 n] w (Told w (.tuple #[.int .i64 0,.int .i64 er])):=by
 have Ac:(er != 0)=true:=by simp[he]
 clear he;go_enter func111,ntmps111;go_wp2_with fail;refine kL.mono ?_;rintro r w2⟨rfl,Ae⟩;have HR:Hid (Told w (.tuple #[.int .i64 0,.int .i64 er]) (.returned (.tuple #[.int .i64 0,.int .i64 er])) (w2.alloc (.cells #[.int .u32 0,.int .i64 0] 72))):=⟨rfl,Ae.alloc Ae.size _⟩
 clear Ae kL c0 k0;go_wp2_with fail
 (try go_ret2);exact HR.out
def frE(er q off n:Int):Int:=if er≠0 then er else if q=0 then 9 else if off<0∨1024<off∨1024-off<n then 2 else if off%8≠0 then 3 else 0
theorem J1P{w:World}{c k s o h r t:Nat}{z right off n er a0 a1 a2:Int}(Cs:-9223372036854775808<=off/\off<=9223372036854775807)(hn:0<=n/\n<=16777216)(Lu:0<=a1/\a1<=1073741824)
  (kL:Calls prog 37 #[.pointer (some ⟨s,0,none⟩),.int .u32 t,.int .i64 z] w (Told w (.tuple #[.agg #[.int .u32 h,.int .i64 r],.int .i64 0])))
  (hV:∀V,Below w.heap.size w V->(V.cell? ⟨c,0,none⟩=some (.pointer (some ⟨k,0,none⟩))/\V.cell? ⟨k,0,none⟩=some (.pointer (some ⟨s,0,none⟩))) /\
   (Calls prog 26 #[.pointer (some ⟨s,0,none⟩)] V fun r w'=>r=.returned (.pointer (some ⟨o,0,none⟩))/\V=w') /\
   Calls prog 49 #[.pointer (some ⟨o,0,none⟩),.int .u32 h,.int .i64 8] V (Told V (.tuple #[.agg #[.int .i64 a0,.int .i64 a1,.int .i64 a2],.int .i64 er]))) :
  Calls prog 111 #[.pointer (some ⟨c,0,none⟩),.int .u32 t,.int .i64 z,.int .i64 right,.int .i64 off,.int .i64 n] w (Told w (.tuple #[.int .i64 (if frE er (bits .and .i64 (r:Int) right) off n=0 then a1+off else 0),.int .i64 (frE er (bits .and .i64 (r:Int) right) off n)])):=by
 have HV:=Q0a hV;obtain⟨c0,k0⟩:=(hV w (Below.refl _ _)).1;obtain⟨q,hq⟩:∃q,q=bits .and .i64 (r:Int) right:=⟨_,rfl⟩
 have IT:bits BinOp.and IntKind.i64 (r:Int) right=q:=hq.symm;rw[IT];have HT:Hid (∀E:Int,frE er q off n=E->∀V,Below w.heap.size w V->Told w (.tuple #[.int .i64 (if frE er q off n=0 then a1+off else 0),.int .i64 (frE er q off n)]) (.returned (.tuple #[.int .i64 (if E=0 then a1+off else 0),.int .i64 E])) V):=fun E e V hb=>by rw[e];exact⟨rfl,hb⟩
 generalize Told w (.tuple #[.int .i64 (if frE er q off n=0 then a1+off else 0),.int .i64 (frE er q off n)])=Q at *
 clear hV hq;go_enter func111,ntmps111;go_wp2_with fail;refine kL.mono ?_;rintro rr w2⟨rfl,Ae⟩;have HB:=Q0a (Ae.alloc Ae.size (.cells #[.int .u32 h,.int .i64 r] 72));have HC:=Q0a (Cells.new w2 72 [.int .u32 h,.int .i64 r]);clear Ae kL c0 k0;go_upto_region 6 with fail;generalize FY:w2.alloc (.cells #[.int .u32 h,.int .i64 r] 72)=W3 at *
 have Aa:w2.heap.size<W3.heap.size:=by rw[<- FY];simp
 have HS:Hid (∀V,Below W3.heap.size W3 V->(V.cell? ⟨c,0,none⟩=some (.pointer (some ⟨k,0,none⟩))/\V.cell? ⟨k,0,none⟩=some (.pointer (some ⟨s,0,none⟩)))/\V.cell? ⟨w2.heap.size,0,none⟩=some (.int .u32 h)):=fun V hV=>⟨(HV.out V (HB.out.trans (hV.mono HB.out.size))).1,(HC.out.same (hV.block _ Aa)).cell 0 _ rfl⟩
 have DF:Hid (∀V,Below W3.heap.size W3 V->Below w.heap.size w V/\V.cell? ⟨w2.heap.size,1,none⟩=some (.int .i64 r)):=fun V hV=>⟨HB.out.trans (hV.mono HB.out.size),(HC.out.same (hV.block _ Aa)).cell 1 _ rfl⟩
 obtain⟨⟨c1,k1⟩,x0⟩:=HS.out W3 (Below.refl _ _);have HK:Hid (∀V,Below W3.heap.size W3 V->(Calls prog 26 #[.pointer (some ⟨s,0,none⟩)] V fun r w'=>r=.returned (.pointer (some ⟨o,0,none⟩))/\V=w') /\
   Calls prog 49 #[.pointer (some ⟨o,0,none⟩),.int .u32 h,.int .i64 8] V (Told V (.tuple #[.agg #[.int .i64 a0,.int .i64 a1,.int .i64 a2],.int .i64 er]))):=fun V hV=>(HV.out V (HB.out.trans (hV.mono HB.out.size))).2
 clear FY HB HC HV
 go_cut [15,16] from 35 to 48 (fun nn oo wc=>∃b:Nat,oo=.pointer (some ⟨b,0,none⟩)/\nn=.int .i64 er/\Below W3.heap.size W3 wc/\wc.cell? ⟨b,1,none⟩=some (.int .i64 a1))
 case first =>
  clear HT DF;have Bg:Hid (∀V,Below W3.heap.size W3 V->∀o,Below W3.heap.size W3 (V.alloc o)):=fun V hb o=>hb.alloc hb.size o
  have HD:Hid (Below W3.heap.size W3 W3.drew):=(Below.refl _ _).drew;have F4:Hid (Below W3.heap.size W3 W3):=Below.refl _ _;have RZ:Hid (∀o,Below W3.heap.size W3 (W3.alloc o).drew):=fun o=>((Below.refl _ _).alloc (J3h _) o).drew
  have K2:Hid (Calls prog 49 #[.pointer (some ⟨o,0,none⟩),.int .u32 h,.int .i64 8] (W3.alloc (.cells #[.int .i64 0,.int .i64 0,.int .i64 0] 54)).drew fun r w4=>r=.returned (.tuple #[.agg #[.int .i64 a0,.int .i64 a1,.int .i64 a2],.int .i64 er])/\Below W3.heap.size W3 w4/\Cells w4 W3.heap.size 54 [.int .i64 0,.int .i64 0,.int .i64 0]):=
   (HK.out _ (Bg.out _ (Below.refl _ _).drew _)).2.mono fun r w4 h=>⟨h.1,((Bg.out _ (Below.refl _ _).drew _)).trans (h.2.mono (by simp)),(Cells.new W3 54 [.int .i64 0,.int .i64 0,.int .i64 0]).same (h.2.block _ (by simp))⟩
  go_region_held3 (fun V=>(V.cell? ⟨c,0,none⟩=some (.pointer (some ⟨k,0,none⟩))/\V.cell? ⟨k,0,none⟩=some (.pointer (some ⟨s,0,none⟩)))/\V.cell? ⟨w2.heap.size,0,none⟩=some (.int .u32 h))
   (first|exact HS.out _ F4.out|exact HS.out _ HD.out|exact HS.out _ (RZ.out _)|exact HS.out _ (Bg.out _ HD.out _)|exact HS.out _ Ag.out|exact HS.out _ (Bg.out _ Ag.out _)|exact HS.out _ (Ag.out.setCell (by simp) _)|exact HS.out _ ((Ag.out.setCell (by simp) _).setCell (by simp) _)|exact HS.out _ (((Ag.out.setCell (by simp) _).setCell (by simp) _).setCell (by simp) _))
   (first|(go_at_call 26;first|(refine(HK.out _ HD.out).1.mono ?_;rintro rv w'⟨rfl,rfl⟩)|(refine(HK.out _ (RZ.out _)).1.mono ?_;rintro rv w'⟨rfl,rfl⟩)|(refine(HK.out _ (Bg.out _ Ag.out _)).1.mono ?_;rintro rv w'⟨rfl,rfl⟩))|(go_at_call 49;refine K2.out.mono ?_;rintro rv w4⟨rfl,Av,Bf⟩;have Ag:=Q0a Av;have z0:=Bf.cell 0 _ rfl;have z1:=Bf.cell 1 _ rfl;have z2:=Bf.cell 2 _ rfl;have y0:=Bf.free 0;have y1:=Bf.free 1;have y2:=Bf.free 2;have F3:=Q0a Bf;clear Av Bf)|(go_at_call 49;refine(HK.out _ HD.out).2.mono ?_;rintro rv w4⟨rfl,Av⟩;have Ag:=Q0a (HD.out.trans (Av.mono HD.out.size));clear Av))
  all_goals (go_wp2_with fail;go_meet;first|exact⟨_,rfl,rfl,Bg.out _ Ag.out _,(Cells.new _ 54 [.int .i64 a0,.int .i64 a1,.int .i64 a2]).cell 1 _ rfl⟩|exact⟨_,rfl,rfl,((Ag.out.setCell (by simp) _).setCell (by simp) _).setCell (by simp) _,(((F3.out.set 0 (.int .i64 a0)).set 1 (.int .i64 a1)).set 2 (.int .i64 a2)).cell 1 _ rfl⟩)
 obtain⟨bo,rfl,rfl,Av,v1⟩:=hcut;obtain⟨As,u1⟩:=DF.out wc Av;have BQ:=Q0a As;clear Av As HS DF HK c1 k1 x0
 ·by_cases he:er=0
  case neg =>
   have Ac:(er != 0)=true:=by simp[he]
   have HR:=Q0a (HT.out er (by unfold frE;rw[if_pos he]) _ BQ.out);rw[if_neg he] at HR;clear HT;go_wp2_with fail
   (try go_ret2);exact HR.out
  case pos =>
   subst he;by_cases E0:q=0
   ·have WN:(q==0)=true:=by simp[E0]
    have HR:=Q0a (HT.out 9 (by unfold frE;rw[if_neg (by decide),if_pos E0]) _ BQ.out);clear HT;go_wp2_with fail
    (try go_ret2);exact HR.out
   ·have WN:(q==0)=false:=by simp[E0]
    by_cases h1:off<0
    ·have hd:decide (off<0)=true:=decide_eq_true h1;have HR:=Q0a (HT.out 2 (by unfold frE;rw[if_neg (by decide),if_neg E0,if_pos (.inl h1)]) _ BQ.out);clear HT;go_wp2_with fail
     (try go_ret2);exact HR.out
    ·have hd:decide (off<0)=false:=decide_eq_false h1;by_cases h2:1024<off
     ·have D6:decide (1024<off)=true:=decide_eq_true h2;have HR:=Q0a (HT.out 2 (by unfold frE;rw[if_neg (by decide),if_neg E0,if_pos (.inr (.inl h2))]) _ BQ.out);clear HT;go_wp2_with fail
      (try go_ret2);exact HR.out
     ·have D6:decide (1024<off)=false:=decide_eq_false h2;have I6:IntKind.i64.wrap (1024-off)=1024-off:=Go.IntWalk.i64_in _ (by omega);have UP:wrap64 (1024-off)=1024-off:=Go.IntWalk.wrap64_in _ (by omega);by_cases h3:1024-off<n
      ·have Hg:decide (1024-off<n)=true:=decide_eq_true h3;have HR:=Q0a (HT.out 2 (by unfold frE;rw[if_neg (by decide),if_neg E0,if_pos (.inr (.inr h3))]) _ BQ.out);clear HT;go_wp2_with fail
       (try go_ret2);exact HR.out
      ·have Hg:decide (1024-off<n)=false:=decide_eq_false h3;have Aw:¬(off<0∨1024<off∨1024-off<n):=by omega
       obtain⟨f,rfl⟩:=J4F (a:=off) (by omega);by_cases h4:(f:Int)%8=0
       ·have Gm:((f:Int)%8 != 0)=false:=by simp;omega
        have HR:=Q0a (HT.out 0 (by unfold frE;rw[if_neg (by decide),if_neg E0,if_neg Aw,if_neg (by simpa using h4)]) _ BQ.out);rw[if_pos rfl] at HR;clear HT;go_wp2_with fail
        (try go_ret2);exact HR.out
       ·have Gm:((f:Int)%8 != 0)=true:=by simp;omega
        have HR:=Q0a (HT.out 3 (by unfold frE;rw[if_neg (by decide),if_neg E0,if_neg Aw,if_pos h4]) _ BQ.out);clear HT;go_wp2_with fail
        (try go_ret2);exact HR.out
def frmE(Z:SP)(t:Nat)(z:Int)(right:Nat)(off n:Int):Int:=match pget Z.S.l 1 t with
 | none=>8
 | some q=>if q.kind=2 then(if 0<=z/\z<256 then(match Q0f Z.S.l Z.tb t z.toNat with
   | none=>6
   | some e=>match pget Z.S.l 1 e.h with
    | none=>8
    | some p=>frE (if p.kind=8 then 0 else 10) ((e.r&&&right:Nat):Int) off n) else 2) else 10
structure FrmAt(Z:SP)(t:Nat)(z:Int)(right:Nat)(off n:Int)(p:Pl)(f:Nat):Prop where
 rg:0<=z/\z<256
 ent:∃e,Q0f Z.S.l Z.tb t z.toNat=some e/\pget Z.S.l 1 e.h=some p/\e.r&&&right≠0
 kind:p.kind=8
 off:off=(f:Int)
 al:f%8=0
 room:(f:Int)+n<=1024
theorem Z0X{er:Int}(h:er≠0)(q off n:Int):frE er q off n=er:=by unfold frE;rw[if_pos h]
theorem Z9K{er q off n:Int}(h:frE er q off n=0):er=0/\q≠0/\0<=off/\off<=1024/\n<=1024-off/\off%8=0:=by
 unfold frE at h;by_cases h1:er=0
 ·rw[if_neg (by omega)] at h;by_cases h2:q=0
  ·rw[if_pos h2] at h;cases h
  ·rw[if_neg h2] at h;by_cases h3:off<0∨1024<off∨1024-off<n
   ·rw[if_pos h3] at h;cases h
   ·rw[if_neg h3] at h;by_cases h4:off%8=0
    ·exact⟨h1,h2,by omega,by omega,by omega,h4⟩
    ·rw[if_pos h4] at h;cases h
 ·rw[if_pos h1] at h;exact(h1 h).elim
def FrmR(Z:SP)(t:Nat)(z:Int)(right:Nat)(off n:Int)(w:World)(r:Ending)(w':World):Prop:=Below w.heap.size w w' /\
 ((frmE Z t z right off n≠0/\r=.returned (.tuple #[.int .i64 0,.int .i64 (frmE Z t z right off n)])) ∨
  (frmE Z t z right off n=0/\∃(p:Pl) (f:Nat),FrmAt Z t z right off n p f/\r=.returned (.tuple #[.int .i64 ((p.at_+f:Nat):Int),.int .i64 0])))
theorem Q6x{w:World}{Z:SP}{fr:List Nat}{N K:Nat}{M:Int}(ok:Z.Ok fr N K M)(h:Sep w Z.hl){c k:Nat}(hc:CarC Z c k w){t:Nat}(ht:t<4294967296)(z:Int){right:Nat}(hr:right<16){off n:Int}(Cs:-9223372036854775808<=off/\off<=9223372036854775807)(hn:0<=n/\n<=16777216) :
  Calls prog 111 #[.pointer (some ⟨c,0,none⟩),.int .u32 t,.int .i64 z,.int .i64 right,.int .i64 off,.int .i64 n] w (FrmR Z t z right off n w):=by
 have kL:=Q6g h ok ht z;obtain⟨c0,k0⟩:=hc.cells;unfold Q5c at kL;have bad:∀e:Int,e≠0->frmE Z t z right off n=e->Calls prog 37 #[.pointer (some ⟨Z.s,0,none⟩),.int .u32 t,.int .i64 z] w (Told w (.tuple #[.agg #[.int .u32 0,.int .i64 0],.int .i64 e]))->Calls prog 111 #[.pointer (some ⟨c,0,none⟩),.int .u32 t,.int .i64 z,.int .i64 right,.int .i64 off,.int .i64 n] w (FrmR Z t z right off n w):=fun e he hE kl=>by
  refine(J2I c0 k0 he kl).mono ?_;rintro r w'⟨rfl,hb⟩;exact⟨hb,.inl ⟨by rw[hE];exact he,by rw[hE]⟩⟩
 cases hq:pget Z.S.l 1 t with
 | none =>
  rw[hq] at kL;exact bad 8 (by decide) (by unfold frmE;rw[hq]) kL
 | some q =>
  rw[hq] at kL;by_cases hk:q.kind=2
  case neg =>
   simp only[if_neg hk] at kL;exact bad 10 (by decide) (by unfold frmE;rw[hq];simp only;rw[if_neg hk]) kL
  case pos =>
   simp only[if_pos hk] at kL;by_cases hz:0<=z/\z<256
   case neg =>
    simp only[if_neg hz] at kL;exact bad 2 (by decide) (by unfold frmE;rw[hq];simp only;rw[if_pos hk,if_neg hz]) kL
   case pos =>
    simp only[if_pos hz] at kL;cases he:Q0f Z.S.l Z.tb t z.toNat with
    | none =>
     rw[he] at kL;exact bad 6 (by decide) (by unfold frmE;rw[hq];simp only;rw[if_pos hk,if_pos hz,he]) kL
    | some e =>
     rw[he] at kL;have Au:=ok.fpi.low ok.core.inv.lok he;have IU:e.r<16:=(Au.2)
     have NN:=Q2t e.r right IU hr;have fin:∀(er a0 a1 a2:Int),(0<=a1/\a1<=1073741824)->(∀V,Below w.heap.size w V->Calls prog 49 #[.pointer (some ⟨Z.S.c,0,none⟩),.int .u32 (e.h:Int),.int .i64 8] V (Told V (.tuple #[.agg #[.int .i64 a0,.int .i64 a1,.int .i64 a2],.int .i64 er]))) ->
       frmE Z t z right off n=frE er ((e.r&&&right:Nat):Int) off n->(frE er ((e.r&&&right:Nat):Int) off n=0->∃p,pget Z.S.l 1 e.h=some p/\p.kind=8/\a1=(p.at_:Int)) ->
       Calls prog 111 #[.pointer (some ⟨c,0,none⟩),.int .u32 t,.int .i64 z,.int .i64 right,.int .i64 off,.int .i64 n] w (FrmR Z t z right off n w):=fun er a0 a1 a2 ha kf hE hP=>by
      refine(J1P (k:=k) (o:=Z.S.c) (er:=er) (a0:=a0) (a2:=a2) Cs hn ha kL fun V hV=>?_).mono ?_
      ·have s1:=h.grown hV;exact⟨(hc.step rfl s1).cells,Q1E s1.sep,kf V hV⟩
      ·rintro r w'⟨rfl,hb⟩;rw[NN];refine⟨hb,?_⟩;by_cases h0:frE er ((e.r&&&right:Nat):Int) off n=0
       ·obtain⟨p,hp,Ft,rfl⟩:=hP h0;obtain⟨-,E0,o1,o2,o3,o4⟩:=Z9K h0;obtain⟨f,rfl⟩:=J4F o1;refine .inr ⟨by rw[hE];exact h0,p,f,⟨hz,⟨e,he,hp,by omega⟩,Ft,rfl,by omega,by omega⟩,?_⟩;rw[if_pos h0,h0,Int.natCast_add]
       ·rw[if_neg h0];exact .inl ⟨by rw[hE];exact h0,by rw[hE]⟩
     cases hp:pget Z.S.l 1 e.h with
     | none =>
      refine fin 8 0 0 0 (by omega) (fun V hV=>Q4h (SP.sS (h.grown hV).sep) ok.core.inv.lok (J5R Au.1 (by decide)) 8 hp) ?_ (fun h0=>?_)
      ·unfold frmE;rw[hq];simp only;rw[if_pos hk,if_pos hz,he];simp only;rw[hp];exact(Z0X (er:=8) (by decide) _ _ _).symm
      ·rw[Z0X (er:=8) (by decide)] at h0;cases h0
     | some p =>
      have Cw:frmE Z t z right off n=frE (if p.kind=8 then 0 else 10) ((e.r&&&right:Nat):Int) off n:=by
       unfold frmE;rw[hq];simp only;rw[if_pos hk,if_pos hz,he];simp only;rw[hp]
      by_cases Ft:p.kind=8
      ·rw[if_pos Ft] at Cw;have hr:=Q0Z ok.core (Q1l hp) (Pl.is_iff.2 (.inl (pget_some.1 hp).2.2)) (.inr Ft);have Dt:=Q0g ok.core.inv.mem.pool;exact fin 0 p.kind p.at_ p.fac (by omega) (fun V hV=>Q3m (SP.sS (h.grown hV).sep) ok.core.inv.lok (J5R Au.1 (by decide)) 8 hp (.inr (by omega))) Cw (fun _=>⟨p,hp,Ft,rfl⟩)
      ·rw[if_neg Ft] at Cw;refine fin 10 0 0 0 (by omega) (fun V hV=>Q4i (SP.sS (h.grown hV).sep) ok.core.inv.lok (J5R Au.1 (by decide)) 8 hp (by decide) (by omega)) Cw (fun h0=>?_);rw[Z0X (er:=10) (by decide)] at h0;cases h0
def LodR(Z:SP)(t:Nat)(z off:Int)(w:World)(r:Ending)(w':World):Prop:=Below w.heap.size w w' /\
 ((frmE Z t z 1 off 8≠0/\r=.returned (.tuple #[.int .u64 0,.int .i64 (frmE Z t z 1 off 8)])) ∨
  (frmE Z t z 1 off 8=0/\∃(p:Pl) (f:Nat),FrmAt Z t z 1 off 8 p f/\r=.returned (.tuple #[.int .u64 (Q0m Z.S.P.a.mem (p.at_+f):Nat),.int .i64 0])))
theorem FrmAt.obj{Z:SP}{fr:List Nat}{N K:Nat}{M:Int}(_ok:Z.Ok fr N K M){t right f:Nat}{z off n:Int}{p:Pl}(h:FrmAt Z t z right off n p f):p∈Z.S.l/\p.is=true:=by
 obtain⟨e,_,hp,_⟩:=h.ent;exact⟨Q1l hp,Pl.is_iff.2 (.inl (pget_some.1 hp).2.2)⟩
theorem Z3T{w:World}{Z:SP}{fr:List Nat}{N K:Nat}{M:Int}(ok:Z.Ok fr N K M)(h:Sep w Z.hl){c k:Nat}(hc:CarC Z c k w){t:Nat}(ht:t<4294967296)(z off:Int)(Cs:-9223372036854775808<=off/\off<=9223372036854775807) :
  Calls prog 46 #[.pointer (some ⟨c,0,none⟩),.int .u32 t,.int .i64 z,.int .i64 off] w (LodR Z t z off w):=by
 have kf:=Q6x ok h hc ht z (right:=1) (by decide) (n:=8) Cs (by decide);have HV:Hid (∀V,Below w.heap.size w V->(V.cell? ⟨c,0,none⟩=some (.pointer (some ⟨k,0,none⟩))/\V.cell? ⟨k,0,none⟩=some (.pointer (some ⟨Z.s,0,none⟩))) /\
   (Calls prog 26 #[.pointer (some ⟨Z.s,0,none⟩)] V fun r w'=>r=.returned (.pointer (some ⟨Z.S.c,0,none⟩))/\V=w') /\
   (Calls prog 27 #[.pointer (some ⟨Z.S.c,0,none⟩)] V fun r w'=>r=.returned (.pointer (some ⟨Z.S.P.p,0,none⟩))/\V=w') /\
   (Calls prog 50 #[.pointer (some ⟨Z.S.P.p,0,none⟩)] V fun r w'=>r=.returned (.pointer (some ⟨Z.S.P.a.a,0,none⟩))/\V=w') /\
   (∀p f,FrmAt Z t z 1 off 8 p f->Calls prog 58 #[.pointer (some ⟨Z.S.P.a.a,0,none⟩),.int .i64 ((p.at_+f:Nat):Int)] V fun r w'=>r=.returned (.tuple #[.int .u64 (Q0m Z.S.P.a.mem (p.at_+f):Nat),.int .i64 0])/\V=w')):=fun V hV=>by
  have s1:=h.grown hV;refine⟨(hc.step rfl s1).cells,Q1E s1.sep,Q0S (SP.sS s1.sep),Q0s (CO.sP (SP.sS s1.sep)),fun p f ha=>?_⟩;exact Z2i ok s1.sep (ha.obj ok).1 (ha.obj ok).2 (.inr ha.kind) ha.al (by rw[ha.kind];show f+8<=1024;have:=ha.room;omega)
 have CJ:Hid (∀V,Below w.heap.size w V->frmE Z t z 1 off 8≠0->LodR Z t z off w (.returned (.tuple #[.int .u64 0,.int .i64 (frmE Z t z 1 off 8)])) V):=fun V hV he=>⟨hV,.inl ⟨he,rfl⟩⟩
 have C7:Hid (∀V p f,Below w.heap.size w V->frmE Z t z 1 off 8=0->FrmAt Z t z 1 off 8 p f->LodR Z t z off w (.returned (.tuple #[.int .u64 (Q0m Z.S.P.a.mem (p.at_+f):Nat),.int .i64 0])) V):=fun V p f hV he ha=>⟨hV,.inr ⟨he,p,f,ha,rfl⟩⟩
 unfold FrmR at kf;generalize LodR Z t z off w=Q at *
 generalize frmE Z t z 1 off 8=E at *
 clear ok h hc ht Cs;go_enter func46,ntmps46;go_wp2_with fail;refine kf.mono ?_;rintro r w2⟨Ae,hr⟩;rcases hr with ⟨he,rfl⟩|⟨he,p,f,ha,rfl⟩
 ·have Ac:(E != 0)=true:=by simp[he]
  have HR:=Q0a (CJ.out w2 Ae he);clear Ae kf HV he CJ C7;go_wp2_with fail
  (try go_ret2);exact HR.out
 ·obtain⟨⟨c0,k0⟩,ko,km,ka,kl⟩:=HV.out w2 Ae;have HR:=Q0a (C7.out w2 p f Ae he ha);have HL:=Q0a (kl p f ha);subst he;generalize Q0m Z.S.P.a.mem (p.at_+f)=x at *
  generalize (p.at_+f:Nat)=y at *
  clear Ae kf HV CJ C7 kl ha;go_wp2_with fail;refine ko.mono ?_;rintro r w'⟨rfl,rfl⟩;go_wp2_with fail;refine km.mono ?_;rintro r w'⟨rfl,rfl⟩;go_wp2_with fail;refine ka.mono ?_;rintro r w'⟨rfl,rfl⟩;go_wp2_with fail;refine HL.out.mono ?_;rintro r w'⟨rfl,rfl⟩;clear ko km ka HL;go_wp2_with fail
  (try go_ret2);exact HR.out
def AsideU(H:HL)(ws:List Nat)(a:Option Addr)(w:World):Prop:=∀(j y:Nat),ws[j]?=some y->∃g o,a=some ⟨g,o,none⟩/\g∉keys H/\g<w.heap.size/\w.cell? ⟨g,o+j,none⟩=some (.int .u64 y)
theorem AsideU.step{H H':HL}{ws:List Nat}{a:Option Addr}{w w':World}(h:AsideU H ws a w)(st:Step H H' w w'):AsideU H' ws a w':=fun j y hj=>by
 obtain⟨g,o,e,hk,hg,hc⟩:=h j y hj;refine⟨g,o,e,fun BC=>?_,J3j hg st.chg.size,(World.cell?_of_block (w:=w) (st.chg.block g hg hk)).trans hc⟩;rcases st.new g BC with h1|h1
 ·exact hk h1
 ·omega
def StoR(Z:SP)(fr:List Nat)(N K:Nat)(M:Int)(t:Nat)(z off:Int)(ws:List Nat)(w:World)(r:Ending)(w':World):Prop:=
 (frmE Z t z 2 off (8*(ws.length:Int))≠0/\r=.returned (.int .i64 (frmE Z t z 2 off (8*(ws.length:Int))))/\Below w.heap.size w w') ∨
 (frmE Z t z 2 off (8*(ws.length:Int))=0/\∃(p:Pl) (f:Nat),FrmAt Z t z 2 off (8*(ws.length:Int)) p f/\r=.returned (.int .i64 0)/\(Z.stored p f ws).Ok fr N K M/\Step Z.hl (Z.stored p f ws).hl w w')
theorem Q3T{w:World}{Z:SP}{fr:List Nat}{N K:Nat}{M:Int}(ok:Z.Ok fr N K M)(h:Sep w Z.hl){c k:Nat}(hc:CarC Z c k w){t:Nat}(ht:t<4294967296)(z off:Int)(Cs:-9223372036854775808<=off/\off<=9223372036854775807){ws:List Nat}{wa:Option Addr}(cap:Nat)(hu:AsideU Z.hl ws wa w)(I6:∀y∈ws,y<18446744073709551616)(hl:ws.length<=1048576) :
  Calls prog 45 #[.pointer (some ⟨c,0,none⟩),.int .u32 t,.int .i64 z,.int .i64 off,.slice wa ws.length cap] w (StoR Z fr N K M t z off ws w):=by
 have kf:=Q6x ok h hc ht z (right:=2) (by decide) (n:=8*(ws.length:Int)) Cs (by omega);have HV:Hid (∀V,Below w.heap.size w V->(V.cell? ⟨c,0,none⟩=some (.pointer (some ⟨k,0,none⟩))/\V.cell? ⟨k,0,none⟩=some (.pointer (some ⟨Z.s,0,none⟩))) /\
   (Calls prog 26 #[.pointer (some ⟨Z.s,0,none⟩)] V fun r w'=>r=.returned (.pointer (some ⟨Z.S.c,0,none⟩))/\V=w') /\
   (Calls prog 27 #[.pointer (some ⟨Z.S.c,0,none⟩)] V fun r w'=>r=.returned (.pointer (some ⟨Z.S.P.p,0,none⟩))/\V=w') /\
   (Calls prog 50 #[.pointer (some ⟨Z.S.P.p,0,none⟩)] V fun r w'=>r=.returned (.pointer (some ⟨Z.S.P.a.a,0,none⟩))/\V=w') /\
   (∀p f,frmE Z t z 2 off (8*(ws.length:Int))=0->FrmAt Z t z 2 off (8*(ws.length:Int)) p f->Calls prog 57 #[.pointer (some ⟨Z.S.P.a.a,0,none⟩),.int .i64 ((p.at_+f:Nat):Int),.slice wa ws.length cap] V fun r w'=>r=.returned (.int .i64 0)/\StoR Z fr N K M t z off ws w (.returned (.int .i64 0)) w')):=fun V hV=>by
  have s1:=h.grown hV;refine⟨(hc.step rfl s1).cells,Q1E s1.sep,Q0S (SP.sS s1.sep),Q0s (CO.sP (SP.sS s1.sep)),fun p f he ha=>?_⟩;have hA:∀b∈keys Z.S.P.a.hl,b∈keys Z.hl:=fun b hk=>by
   obtain⟨q,hq,rfl⟩:=J3n.1 hk;exact J3n.2 ⟨q,by simp only[SP.hl,CO.hl,PL.hl,J3m,J3Q];simp[hq],rfl⟩
  refine(Q4t ok s1.sep (ha.obj ok).1 (ha.obj ok).2 (.inr ha.kind) ha.al (ws:=ws) (by rw[ha.kind];show f+8*ws.length<=1024;have:=ha.room;omega) I6 wa cap (fun wq hcq j y hj=>by
   obtain⟨g,o,e,hk,hg,Ap⟩:=hu.step s1 j y hj;subst e;refine⟨_,rfl,?_⟩;have e2:(⟨g,o,none⟩:Addr).add j=⟨g,o+j,none⟩:=by unfold Addr.add;split <;> simp_all
   rw[e2];exact(World.cell?_of_block (w:=V) (hcq.block g hg fun Ax=>hk (hA _ Ax))).trans Ap)).mono ?_
  rintro r w'⟨rfl,ok2,st2⟩;exact⟨rfl,.inr ⟨he,p,f,ha,rfl,ok2,s1.trans st2⟩⟩
 have CJ:Hid (∀V,Below w.heap.size w V->frmE Z t z 2 off (8*(ws.length:Int))≠0->StoR Z fr N K M t z off ws w (.returned (.int .i64 (frmE Z t z 2 off (8*(ws.length:Int))))) V):=fun V hV he=>.inl ⟨he,rfl,hV⟩
 unfold FrmR at kf;generalize StoR Z fr N K M t z off ws w=Q at *
 have Cp:(8*(ws.length:Int))=(ws.length:Int)*8:=by omega
 generalize FrmAt Z t z 2 off (8*(ws.length:Int))=FA at *
 generalize frmE Z t z 2 off (8*(ws.length:Int))=E at *
 rw[Cp] at kf;have Uq:IntKind.i64.wrap ((ws.length:Int)*8)=(ws.length:Int)*8:=Go.IntWalk.i64_in _ (by omega);generalize ws.length=n at *
 clear ok h hc ht Cs hu I6 Cp;go_enter func45,ntmps45;go_wp2_with fail;refine kf.mono ?_;rintro r w2⟨Ae,hr⟩;rcases hr with ⟨he,rfl⟩|⟨he,p,f,ha,rfl⟩
 ·have Ac:(E != 0)=true:=by simp[he]
  have HR:=Q0a (CJ.out w2 Ae he);clear Ae kf HV he CJ;go_wp2_with fail
  (try go_ret2);exact HR.out
 ·obtain⟨⟨c0,k0⟩,ko,km,ka,kl⟩:=HV.out w2 Ae;have HL:=Q0a (kl p f he ha);subst he;generalize (p.at_+f:Nat)=y at *
  clear Ae kf HV CJ kl ha;go_wp2_with fail;refine ko.mono ?_;rintro r w'⟨rfl,rfl⟩;go_wp2_with fail;refine km.mono ?_;rintro r w'⟨rfl,rfl⟩;go_wp2_with fail;refine ka.mono ?_;rintro r w'⟨rfl,rfl⟩;go_wp2_with fail;refine HL.out.mono ?_;rintro r w3⟨rfl,hq⟩;have HR:=Q0a hq;clear ko km ka HL hq;go_wp2_with fail
  (try go_ret2);exact HR.out
def plB(f:Nat->Nat×Nat)(i:Nat):Pl:=⟨Q0z i,(f i).1,0,1,0,(f i).2⟩
structure CaI(Z:SP)(L M:Int)(f:Nat->Nat×Nat)(fr:List Nat):Prop where
 m:MkY Z 2 L 8 M (lB f 7) fr
 nx:Z.F.next=M
section
variable {Z Z':SP} {L M M':Int} {f:Nat->Nat×Nat} {fr:List Nat}
theorem CaI.at'(h:CaI Z L M f fr){i:Nat}(hi:i<7):pget Z.S.l 1 (i+1)=some (plB f i):=by
 rw[h.m.l];exact Q6r f (by omega) hi
theorem CaI.root(h:CaI Z L M f fr):pget Z.S.l 1 0=some ⟨1,64,0,1,0,0⟩:=by
 rw[h.m.l];exact pget_some.2 ⟨(J2D f (by omega)).1,rfl,rfl⟩
theorem CaI.idx(h:CaI Z L M f fr){i:Nat}(hi:i<7):Z.S.l[i+1]?=some (plB f i):=by
 have:=(pget_some.1 (h.at' hi)).1
 rwa [J4w (by omega)] at this
theorem CaI.mem(h:CaI Z L M f fr){i:Nat}(hi:i<7):plB f i∈Z.S.l/\(plB f i).is=true:=⟨J5p (h.idx hi),Pl.is_iff.2 (.inl rfl)⟩
theorem CaI.room(h:CaI Z L M f fr){i:Nat}(hi:i<7)(hk:Q0z i=3):(f i).1+256<=Z.S.P.a.mem.length/\(f i).1%8=0:=by
 have:=Q0Z h.m.ok.core (h.mem hi).1 (h.mem hi).2 (.inl hk);have e:costK (plB f i).kind=256:=by show costK (Q0z i)=256;rw[hk];rfl
 rw[e] at this;exact this
theorem CaI.two(h:CaI Z L M f fr){i j:Nat}(hi:i<7)(hj:j<7)(D2:i≠j):(f i).1+costK (Q0z i)<=(f j).1∨(f j).1+costK (Q0z j)<=(f i).1:=
 Q2D h.m.ok.core (h.idx hi) (h.idx hj) (by omega) rfl rfl
theorem CaI.poke(h:CaI Z L M f fr){m:List Nat}(ok:(Z.poke m).Ok fr 8 0 M):CaI (Z.poke m) L M f fr:=⟨⟨ok,h.m.ts,h.m.now,h.m.per,h.m.q,h.m.l⟩,h.nx⟩
theorem CaI.same(h:CaI Z L M f fr)(s:SameN Z Z')(ok:Z'.Ok fr 8 0 M')(hx:Z'.F.next=M'):CaI Z' L M' f fr:=⟨h.m.same ok s,hx⟩
theorem J0o{N K:Nat}(ok:Z.Ok fr N K M){p:Pl}(hp:p∈Z.S.l)(hi:p.is=true)(hk:p.kind=3):Z.S.P.has 3 (p.at_:Int)=true:=by
 unfold PL.has PL.usedI;rw[decide_eq_true_eq,if_pos (by decide)];refine⟨by omega,?_⟩;rw[J4g];refine(ok.core.inv.mem.ats 3 (by omega) (by omega)).mem_iff.1 (J3w.2 ⟨p,hp,?_⟩);unfold atsF;rw[hi,hk];rfl
theorem CaI.blk(h:CaI Z L M f fr){t i:Nat}(ht:t=1∨t=2)(hi:i<7)(hk:Q0z i=3):blkE Z t ((f i).1:Int)=0:=by
 have hh:=J0o h.m.ok (h.mem hi).1 (h.mem hi).2 hk;have hp:pget Z.S.l 1 t=some (plB f (t-1)):=by
  have:=h.at' (i:=t-1) (by omega)
  rwa [show t-1+1=t by omega] at this
 have Ax:(plB f (t-1)).kind=2:=by rcases ht with rfl|rfl <;> rfl
 unfold blkE;rw[hp];simp only;rw[if_pos Ax];have e:Z.S.P.has 3 ((f i).1:Int)=true:=hh;rw[if_pos e]
theorem CaI.blk0(h:CaI Z L M f fr)(a:Int):blkE Z 0 a=10:=by
 unfold blkE;rw[h.root];simp only;rw[if_neg (by decide)]
theorem CaI.blk8(h:CaI Z L M f fr):blkE Z 1 (((f 2).1+8:Nat):Int)=1:=by
 unfold blkE;rw[h.at' (i:=0) (by omega)];simp only;have hk:(plB f 0).kind=2:=rfl;rw[if_pos hk,if_neg];intro hh;obtain⟨p,hp,hi,G4,ha⟩:=Q7C h.m.ok hh;obtain⟨j,hj⟩:=J5Q.1 hp;have h3:=h.idx (i:=2) (by omega);by_cases e:j=3
 ·subst e;rw[h3] at hj;cases hj;have:(((f 2).1+8:Nat):Int)=((f 2).1:Int):=ha;omega
 ·have Ao:p.st=1:=by
   rcases Pl.is_iff.1 hi with h1|h2
   ·exact h1
   ·exfalso;have hm:=h.m.l;have CI:(lB f 7)[j]?=some p:=by rw[<- hm];exact hj
    have DG:j<256:=by
     have:=(J3y.1 CI).1
     rwa [Z6V] at this
    rw[Q7y f 7 (by omega) j DG] at CI;have GH:=J3Y CI;rw[<- GH] at h2
    revert h2
    split
    ·intro h2;cases h2
    ·split
     ·intro h2;cases h2
     ·intro h2;cases h2
  have:=Q2D h.m.ok.core h3 hj (by omega) rfl Ao;rw[G4] at this;have e1:(plB f 2).at_=(f 2).1:=rfl;have e2:costK (plB f 2).kind=256:=rfl;have e3:costK 3=256:=rfl;rw[e1,e2,e3] at this;omega
theorem BlkAt.at_{t:Nat}{a:Nat}{p:Pl}(h:BlkAt Z t (a:Int) p):p.at_=a:=by
 have:=h.2.2.2.2;omega
theorem CaI.kept(h:CaI Z L M f fr)(s:SameN Z Z'){i:Nat}(hi:i<7)(hk:Q0z i=3):msgV Z'.S.P.a.mem (f i).1=msgV Z.S.P.a.mem (f i).1/\winV Z'.S.P.a.mem (f i).1=winV Z.S.P.a.mem (f i).1:=by
 have Ej:=s.alt.kept (plB f i) (h.mem hi).1 (h.mem hi).2 (by show Q0z i≠2;omega);have e:costK (plB f i).kind=256:=by show costK (Q0z i)=256;rw[hk];rfl
 rw[e] at Ej;exact Q7A Ej
end
theorem J1Q{x y:Nat}{A:Nat->Mv}{a0:AV}{nx:Int}(HU:x≠y){k:Nat}{a:AV}(h:AddsM x y A a0 nx k a):(∀u s:Nat,(u=y->∀j,j<k->s≠(A j).dst.toNat)->a.en u s=a0.en u s)/\∀j,j<k->∃c,a0.en x (A j).src.toNat=some c/\a.en y (A j).dst.toNat=some (c.1,c.2&&&(A j).r.toNat):=by
 induction h with
 | zero=>exact⟨fun _ _ _=>rfl,fun j hj=>by omega⟩
 | succ k a c b _ Gc hdst ih =>
  obtain⟨i1,i2⟩:=ih;refine⟨fun u s hu=>?_,fun j hj=>?_⟩
  ·show setA a.en y (A k).dst.toNat _ u s=_;unfold setA;rw[if_neg]
   ·exact i1 u s fun e j hj=>hu e j (by omega)
   ·rintro⟨e1,e2⟩;exact hu e1 k (by omega) e2
  ·by_cases e:j=k
   ·subst e;refine⟨c,?_,?_⟩
    ·rw[<- i1 x (A j).src.toNat fun e=>absurd e HU];exact Gc
    ·show setA a.en y (A j).dst.toNat _ y (A j).dst.toNat=_;unfold setA;rw[if_pos ⟨rfl,rfl⟩]
   ·obtain⟨c',q1,q2⟩:=i2 j (by omega);refine⟨c',q1,?_⟩;show setA a.en y (A k).dst.toNat _ y (A j).dst.toNat=_;unfold setA;rw[if_neg]
    ·exact q2
    ·rintro⟨_,e2⟩;rw[e2,hdst] at q2;cases q2
end Go.Proofs.YtfidemmgofcnmaaGreatDoor
