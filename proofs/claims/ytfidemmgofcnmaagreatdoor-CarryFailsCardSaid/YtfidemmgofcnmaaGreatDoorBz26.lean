/- What the laws of spaces share is proved. No condition. Part of a proof. -/
import Derived.Test.YtfidemmgofcnmaaGreatDoorBz25
set_option maxHeartbeats 4000000
set_option maxRecDepth 100000
set_option linter.unusedVariables false
namespace Go.Proofs.YtfidemmgofcnmaaGreatDoor
open Go.RowKit Go.Proofs.Tryz
theorem Q9N{w:World}{Z:SP}{fr:List Nat}{N K:Nat}{M:Int}(ok:Z.Ok fr N K M)(h:Sep w Z.hl){p:Pl}(hp:p∈Z.S.l)(hi:p.is=true)(Bd:p.kind=3){g:Nat}(hb:BlkC Z p g w) :
  Calls prog 117 #[.pointer (some ⟨g,0,none⟩)] w (Told w (.agg #[.int .i64 (winV Z.S.P.a.mem p.at_).base,.int .i64 (winV Z.S.P.a.mem p.at_).order])):=by
 have hx:=Q8n ok.core.inv.mem.pool.bytes (p.at_+8*2);have b1:Below w.heap.size w (w.alloc (.cells #[.int .i64 0,.int .i64 0] 65)):=(Below.refl _ _).alloc (J3h _) _;have kl:=Q7B ok (h.grown b1).sep hp hi Bd (AsideV.step hb (h.grown b1)) 2 (by omega);unfold winV;have EZ:Q0o Z.S.P.a.mem p.at_ 2<18446744073709551616:=hx;generalize Q0o Z.S.P.a.mem p.at_ 2=x at *
 have Ix:∀d:Nat,x/d<18446744073709551616:=fun d=>J4n (J4H _ _) EZ
 have e1:=Q3f x 255 8 EZ rfl (by omega);have e2:=Q3f (x/256) 15 4 (Ix _) rfl (by omega);rw[show(2:Nat) ^ 8=256 from rfl] at e1;rw[show(2:Nat) ^ 4=16 from rfl,J4V] at e2;obtain⟨b,Aq⟩:∃b:Nat,b=x%256:=⟨_,rfl⟩
 obtain⟨o,ho⟩:∃b:Nat,b=x/256%16:=⟨_,rfl⟩
 obtain⟨q,hq⟩:∃b:Nat,b=x/4096:=⟨_,rfl⟩
 rw[<- Aq] at e1;rw[<- ho] at e2;rw[<- Aq,<- ho,<- hq];have d1:bits BinOp.and IntKind.u64 (x:Int) 255=(b:Int):=e1;have d2:bits BinOp.and IntKind.u64 ((x:Int)/256) 15=(o:Int):=e2;have d3:(x:Int)/4096=(q:Int):=by rw[hq];omega
 have w1:wrap64 (b:Int)=(b:Int):=Go.IntWalk.wrap64_in _ (by omega);have w2:wrap64 (o:Int)=(o:Int):=Go.IntWalk.wrap64_in _ (by omega);have c1:=Cells.new w 65 [.int .i64 0,.int .i64 0];have EI:Hid (∀V,Calls prog 95 #[.agg #[.int .i64 b,.int .i64 o]] V (Told V (.bool (Q0v (b:Int) (o:Int))))):=fun V=>Z0Q V ⟨(b:Int),(o:Int)⟩
 have HZ:Hid (∀w3,Below ((w.alloc (.cells #[.int .i64 0,.int .i64 0] 65)).alloc (.cells #[.int .i64 b,.int .i64 o] 65)).heap.size ((w.alloc (.cells #[.int .i64 0,.int .i64 0] 65)).alloc (.cells #[.int .i64 b,.int .i64 o] 65)) w3 ->
   Cells w3 w.heap.size 65 [.int .i64 0,.int .i64 0]/\Cells w3 (w.heap.size+1) 65 [.int .i64 b,.int .i64 o]/\∀v0 v1,Below w.heap.size w ((w3.setCell ⟨w.heap.size,0,none⟩ v0).setCell ⟨w.heap.size,1,none⟩ v1)):=fun w3 Am=>by
  have c2:=Cells.new (w.alloc (.cells #[.int .i64 0,.int .i64 0] 65)) 65 [.int .i64 b,.int .i64 o];have hz:(w.alloc (.cells #[.int .i64 0,.int .i64 0] 65)).heap.size=w.heap.size+1:=by simp
  rw[hz] at c2;have c3:=c1.alloc (.cells #[.int .i64 b,.int .i64 o] 65);exact⟨c3.same (Am.block _ c3.lt),c2.same (Am.block _ c2.lt),fun v0 v1=>((Q0b (Q0b Am)).setCell (J3h _) _).setCell (J3h _) _⟩
 have EE:Hid (Below w.heap.size w ((w.alloc (.cells #[.int .i64 0,.int .i64 0] 65)).alloc (.cells #[.int .i64 b,.int .i64 o] 65))):=b1.alloc b1.size _;generalize AQ:Q0v (b:Int) (o:Int)=al at *
 clear ok h hp hi Bd hb hx EZ Ix e1 e2 Aq ho hq b1 c1 AQ;have HV:Hid (∀r w',(q=0->al=true->r=.returned (.agg #[.int .i64 b,.int .i64 o]))->(¬(q=0/\al=true)->r=.returned (.agg #[.int .i64 0,.int .i64 0]))->Below w.heap.size w w'->Told w (.agg #[.int .i64 (if q=0/\al=true then(⟨(b:Int),(o:Int)⟩:Wi) else⟨0,0⟩).base,.int .i64 (if q=0/\al=true then(⟨(b:Int),(o:Int)⟩:Wi) else⟨0,0⟩).order]) r w'):=fun r w' h1 h2 hb=>by
  by_cases hc:q=0/\al=true
  ·rw[if_pos hc];exact⟨h1 hc.1 hc.2,hb⟩
  ·rw[if_neg hc];exact⟨h2 hc,hb⟩
 generalize Told w (.agg #[.int .i64 (if q=0/\al=true then(⟨(b:Int),(o:Int)⟩:Wi) else⟨0,0⟩).base,.int .i64 (if q=0/\al=true then(⟨(b:Int),(o:Int)⟩:Wi) else⟨0,0⟩).order])=Q at *
 by_cases h0:q=0
 case neg =>
  have Ac:((q:Int) != 0)=true:=by simp;omega
  obtain⟨k1,k2,GF⟩:=HZ.out _ (Below.refl _ _);have HR:=Q0a (HV.out _ _ (fun h=>(h0 h).elim) (fun _=>rfl) EE.out.drew);have f0:=k1.free 0;have f1:=k1.free 1;have g0:=k1.cell 0 _ rfl;have g1:=k1.cell 1 _ rfl;have Aa:=k1.lt;clear HZ HV k1 k2 GF EI;go_enter func117,ntmps117;go_wp2_with (first|(go_at_call 184;refine kl.mono ?_;rintro r w'⟨rfl,rfl⟩));refine bodyPost_ret (v:=.agg #[.int .i64 0,.int .i64 0]) (by simp[results,results117,go_sem,g0,g1]) rfl HR.out
 case pos =>
  subst h0;have Ac:(((0:Nat):Int) != 0)=false:=by simp
  go_enter func117,ntmps117;go_wp2_with (first|(go_at_call 184;refine kl.mono ?_;rintro r w'⟨rfl,rfl⟩)|fail);refine(EI.out _).mono ?_;rintro r w5⟨rfl,As⟩;obtain⟨k1,k2,GF⟩:=HZ.out w5 ((Below.refl _ _).drew.trans (As.mono (J3h _)));have f0:=k1.free 0;have f1:=k1.free 1;have g0:=k1.cell 0 _ rfl;have g1:=k1.cell 1 _ rfl;have j0:=k2.cell 0 _ rfl;have j1:=k2.cell 1 _ rfl;have Aa:=k1.lt;have HB:=Q0a GF;clear HZ k1 k2 GF EI As kl;cases al with
  | false =>
   have HR:=Q0a (HV.out _ _ (fun _ h=>by cases h) (fun _=>rfl) (HB.out (.int .i64 0) (.int .i64 0)));clear HV;go_wp2_with fail;refine bodyPost_ret (v:=.agg #[.int .i64 0,.int .i64 0]) (by simp[results,results117,go_sem,g0,g1]) rfl HR.out
  | true =>
   have HR:=Q0a (HV.out _ _ (fun _ _=>rfl) (fun h=>(h (by simp)).elim) (HB.out (.int .i64 b) (.int .i64 o)));clear HV;go_wp2_with fail;refine bodyPost_ret (v:=.agg #[.int .i64 b,.int .i64 o]) (by simp[results,results117,go_sem,g0,g1]) rfl HR.out
def OpnR(Z:SP)(fr:List Nat)(N K:Nat)(M:Int)(p:Pl)(v:Wi)(w:World)(r:Ending)(w':World):Prop:=
 (Q0v v.base v.order=false/\r=.returned (.int .i64 1)/\Below w.heap.size w w') ∨
 (Q0v v.base v.order=true/\r=.returned (.int .i64 0)/\(Z.poke (Q5d Z.S.P.a.mem p.at_ v)).Ok fr N K M/\Step Z.hl (Z.poke (Q5d Z.S.P.a.mem p.at_ v)).hl w w')
theorem Z3Q{w:World}{Z:SP}{fr:List Nat}{N K:Nat}{M:Int}(ok:Z.Ok fr N K M)(h:Sep w Z.hl){p:Pl}(hp:p∈Z.S.l)(hi:p.is=true)(Bd:p.kind=3){g:Nat}(hb:BlkC Z p g w)(v:Wi) :
  Calls prog 182 #[.pointer (some ⟨g,0,none⟩),.agg #[.int .i64 v.base,.int .i64 v.order]] w (OpnR Z fr N K M p v w):=by
 obtain⟨vb,vo⟩:=v;have b1:Below w.heap.size w (w.alloc (.cells #[.int .i64 vb,.int .i64 vo] 65)):=(Below.refl _ _).alloc (J3h _) _;have km:=Z0Q (w.alloc (.cells #[.int .i64 vb,.int .i64 vo] 65)) ⟨vb,vo⟩;have cw:=Cells.new w 65 [.int .i64 vb,.int .i64 vo];dsimp only at km;cases AQ:Q0v vb vo with
 | false =>
  rw[AQ] at km;have HR:Hid (∀w',Below (w.alloc (.cells #[.int .i64 vb,.int .i64 vo] 65)).heap.size (w.alloc (.cells #[.int .i64 vb,.int .i64 vo] 65)) w'->OpnR Z fr N K M p ⟨vb,vo⟩ w (.returned (.int .i64 1)) w'):=fun w' hw=>.inl ⟨AQ,rfl,Q0b hw⟩
  clear ok h hp hi Bd hb AQ b1 cw;go_enter func182,ntmps182;go_wp2_with fail;refine km.mono ?_;rintro r w2⟨rfl,Ae⟩;have HQ:=Q0a (HR.out _ Ae);clear Ae km HR;go_wp2_with fail
  (try go_ret);exact HQ.out
 | true =>
  rw[AQ] at km;obtain⟨h1,h2,h3,h4⟩:=Q1V AQ;obtain⟨bn,rfl⟩:=J4F h1;obtain⟨on,rfl⟩:=J4F h3;have hr:=Q0Z ok.core hp hi (.inl Bd);rw[Bd,show costK 3=256 from rfl] at hr;have Dt:=Q0g ok.core.inv.mem.pool;obtain⟨xx,Lc⟩:∃n,n=bn+256*on:=⟨_,rfl⟩
  have HF:Hid (∀w2,Below (w.alloc (.cells #[.int .i64 bn,.int .i64 on] 65)).heap.size (w.alloc (.cells #[.int .i64 bn,.int .i64 on] 65)) w2 ->
    (w2.cell? ⟨g,0,none⟩=some (.pointer (some ⟨Z.S.P.a.a,0,none⟩))/\w2.cell? ⟨g,1,none⟩=some (.int .i64 (p.at_:Int))/\w2.cell? ⟨w.heap.size,0,none⟩=some (.int .i64 bn)/\w2.cell? ⟨w.heap.size,1,none⟩=some (.int .i64 on)) /\
    (∀V:World,V.cell? ⟨g,1,none⟩=some (.int .i64 (p.at_:Int))->Calls prog 217 #[.pointer (some ⟨g,0,none⟩),.int .i64 2] V fun r w'=>r=.returned (.int .i64 ((p.at_+8*2:Nat):Int))/\V=w') /\
    (∀o j,(w2.drew.alloc o).cell? ⟨g,j,none⟩=w2.cell? ⟨g,j,none⟩)/\(∀o j,(w2.drew.alloc o).cell? ⟨w.heap.size,j,none⟩=w2.cell? ⟨w.heap.size,j,none⟩) /\
    Calls prog 57 #[.pointer (some ⟨Z.S.P.a.a,0,none⟩),.int .i64 ((p.at_+8*2:Nat):Int),.slice (some ⟨w2.heap.size,0,none⟩) 1 1] (w2.drew.alloc (.cells #[.int .u64 xx] 83)) fun r w3=>r=.returned (.int .i64 0)/\(w3.cell? ⟨g,0,none⟩=some (.pointer (some ⟨Z.S.P.a.a,0,none⟩))/\w3.cell? ⟨w.heap.size,0,none⟩=some (.int .i64 bn)/\w3.cell? ⟨w.heap.size,1,none⟩=some (.int .i64 on))/\OpnR Z fr N K M p ⟨(bn:Int),(on:Int)⟩ w (.returned (.int .i64 0)) w3):=fun w2 E3=>by
   have Ae:=Q0b E3;have g2:=h.grown Ae;have AJ:=AsideV.step hb g2;obtain⟨g0,e0,_,l0,z0⟩:=AJ 0 _ rfl;obtain⟨g1,e1,_,_,z1⟩:=AJ 1 _ rfl;cases e0;cases e1;have L9:=cw.same (E3.block _ cw.lt);have Ed:w2.heap.size∉keys Z.S.P.a.hl:=Q4p (SP.sA g2.sep);have b3:Below w2.heap.size w2 (w2.drew.alloc (.cells #[.int .u64 xx] 83)):=(Below.refl w2.heap.size w2).drew.alloc (J3h _) _;have cN:=Cells.new w2.drew 83 [.int .u64 xx];refine⟨⟨z0,z1,L9.cell 0 _ rfl,L9.cell 1 _ rfl⟩,fun V hV=>Q3w hV (by omega) 2 (by omega),fun o j=>World.cell?_of_block (w:=w2) (((Below.refl w2.heap.size w2).drew.alloc (J3h _) o).block _ l0),fun o j=>World.cell?_of_block (w:=w2) (((Below.refl w2.heap.size w2).drew.alloc (J3h _) o).block _ L9.lt),?_⟩
   refine(Q4t ok (g2.trans (g2.sep.grown b3)).sep hp hi (.inl Bd) (o:=8*2) (by omega) (ws:=[xx]) (by rw[Bd];show 8*2+8*1<=256;omega) (fun y hy=>by rw[J5i.1 hy];omega) (some ⟨w2.heap.size,0,none⟩) 1 (fun wq hc j y hj=>by
    have cq:=cN.same (hc.block _ cN.lt Ed);refine⟨_,rfl,?_⟩;rw[addp,J5F]
    match j,hj with
    | 0,hj=>cases hj;exact cq.cell 0 _ rfl)).mono ?_
   rintro r w3⟨rfl,ok3,st3⟩;obtain⟨g3,e3,_,_,z3⟩:=AsideV.step (AsideV.step AJ (g2.sep.grown b3)) st3 0 _ rfl;cases e3;have LY:w.heap.size∉keys Z.hl:=Q4p h;have Sj:=(L9.same (b3.block _ L9.lt)).same (st3.chg.block _ (J3j L9.lt b3.size) LY);refine⟨rfl,⟨z3,Sj.cell 0 _ rfl,Sj.cell 1 _ rfl⟩,.inr ⟨AQ,rfl,?_⟩⟩;have em:Z.poke (Q5d Z.S.P.a.mem p.at_ ⟨(bn:Int),(on:Int)⟩)=Z.stored p (8*2) [xx]:=by
    unfold Q5d SP.stored;rw[Lc,J4g,J4g]
   rw[em];exact⟨ok3,(g2.trans (g2.sep.grown b3)).trans st3⟩
  have hv:(xx:Int)=IntKind.u64.wrap (bits BinOp.or IntKind.i64 (bn:Int) (IntKind.i64.wrap ((on:Int)*256))):=by
   have f1:IntKind.i64.wrap ((on:Int)*256)=((256*on:Nat):Int):=by rw[Go.IntWalk.i64_in _ (by omega)];omega
   have f2:bits BinOp.or IntKind.i64 (bn:Int) ((256*on:Nat):Int)=(xx:Int):=by
    rw[Q2v _ _ (by omega) (by omega),Lc];have:=Z0R bn on 8 (by omega);rw[show 256*on=on*2 ^ 8 by omega,this]
   rw[f1,f2,Go.IntWalk.u64_in _ (by omega)]
  rw[hv] at HF;generalize (p.at_+8*2:Nat)=y2 at *
  generalize OpnR Z fr N K M p ⟨(bn:Int),(on:Int)⟩ w=Q at *
  generalize Z.S.P.a.a=aa at *
  generalize p.at_=pa at *
  clear ok h hp hi Bd hb AQ b1 cw h1 h2 h3 h4 hr Dt Lc hv;go_enter func182,ntmps182;go_wp2_with fail;refine km.mono ?_;rintro r w2⟨rfl,Ae⟩;obtain⟨⟨c0,c1,v0,v1⟩,kw,q1,q2,ks⟩:=HF.out w2 Ae;have d0:w2.drew.cell? ⟨g,0,none⟩=some (.pointer (some ⟨aa,0,none⟩)):=c0;have d1:w2.drew.cell? ⟨g,1,none⟩=some (.int .i64 pa):=c1;have u0:w2.drew.cell? ⟨w.heap.size,0,none⟩=some (.int .i64 bn):=v0;have u1:w2.drew.cell? ⟨w.heap.size,1,none⟩=some (.int .i64 on):=v1;have KW:=Q0a kw;have KS:=Q0a ks;have Q1:=Q0a q1;have Q2:=Q0a q2;clear km Ae HF kw ks q1 q2;go_upto_region 3 with fail
  go_region_held3 (fun V=>V.cell? ⟨g,0,none⟩=some (.pointer (some ⟨aa,0,none⟩))/\V.cell? ⟨w.heap.size,0,none⟩=some (.int .i64 bn)/\V.cell? ⟨w.heap.size,1,none⟩=some (.int .i64 on)) (first|exact⟨c0,v0,v1⟩|exact⟨d0,u0,u1⟩|exact z3|exact⟨(Q1.out _ 0).trans c0,(Q2.out _ 0).trans v0,(Q2.out _ 1).trans v1⟩) (first|(go_at_call 217;first|(refine(KW.out _ d1).mono ?_;rintro r w'⟨rfl,rfl⟩)|(refine(KW.out _ ((Q1.out _ 1).trans c1)).mono ?_;rintro r w'⟨rfl,rfl⟩))|(go_at_call 57;refine KS.out.mono ?_;rintro r w3⟨rfl,z3,hq⟩;have HQ:=Q0a hq;clear hq))
  all_goals
   go_wp2_with fail
   (try go_ret);exact HQ.out
theorem Z7f{w w':World}{rw_:RV}{ws:List Nat}{R:HL}(h:rvOk rw_ ws.length)(st:Step [] (rowH rw_ 83 1 (ws.map encU)++R) w w'):∃a cap,lvOf rw_ ws.length=.slice a ws.length cap/\IsU w' a ws:=by
 cases rw_ with
 | none =>
  have h0:ws.length=0:=h;obtain rfl:ws=[]:=J5a.1 h0;exact⟨none,0,rfl,fun j y hj=>by simp at hj⟩
 | some q =>
  obtain⟨g,cap⟩:=q;refine⟨some ⟨g,0,none⟩,cap,rfl,fun j y hj=>⟨g,0,rfl,st.sep.lt (by simp[rowH]),?_⟩⟩;rw[J5F];exact Q0w st.sep.left j _ (by rw[J4M,hj];rfl)
theorem Z7g{w w':World}{ri:RV}{its:List It}{R:HL}(h:rvOk ri its.length)(st:Step [] (R++rowH ri 63 5 (its.flatMap It.cells)) w w'):∃a cap,lvOf ri its.length=.slice a its.length cap/\IsI w' a its:=by
 cases ri with
 | none =>
  have h0:its.length=0:=h;obtain rfl:its=[]:=J5a.1 h0;exact⟨none,0,rfl,fun j y hj=>by simp at hj⟩
 | some q =>
  obtain⟨g,cap⟩:=q;refine⟨some ⟨g,0,none⟩,cap,rfl,fun j y hj=>⟨g,0,rfl,st.sep.lt (by simp[rowH]),fun c v hv=>?_⟩⟩;rw[J5F];exact Q0w st.sep.right (j*5+c) _ (Q7x its j c y v hj hv)
theorem Z7h{m:List Nat}(hm:∀b∈m,b<256)(p:Nat):(msgV m p).ws.length<=8/\∀y∈(msgV m p).ws,y<18446744073709551616:=by
 unfold msgV;split
 ·exact⟨by simp[Msg.none],by simp[Msg.none]⟩
 ·rename_i hc;split
  ·refine⟨by simp;omega,fun y hy=>?_⟩;obtain⟨i,_,rfl⟩:=J3n.1 hy;exact Q8n hm _
  ·exact⟨by simp[Msg.none],by simp[Msg.none]⟩
theorem J2H(w:World)(l:Int)(a xa:Option Addr)(n c xn xc:Nat):Sem.run prog (Instr.field 100 (.agg #[.int .u64 l,.slice a n c,.slice xa xn xc]) 1) w=.ok (.slice a n c) w:=by kernel_rfl
theorem J1M(w:World)(l:Int)(a xa:Option Addr)(n c xn xc:Nat):Sem.run prog (Instr.field 100 (.agg #[.int .u64 l,.slice a n c,.slice xa xn xc]) 2) w=.ok (.slice xa xn xc) w:=by kernel_rfl
theorem Z3R{w:World}{Z:SP}{fr:List Nat}{N K:Nat}{M:Int}(ok:Z.Ok fr N K M)(h:Sep w Z.hl){p p':Pl}(hp:p∈Z.S.l)(hi:p.is=true)(Bd:p.kind=3){g g':Nat}(hb:BlkC Z p g w)(AG:p'∈Z.S.l)(Kr:p'.is=true)(hkd':p'.kind=3)(Al:BlkC Z p' g' w){lb:Nat}(hl:lb<18446744073709551616) :
  Calls prog 119 #[.pointer (some ⟨g,0,none⟩),.pointer (some ⟨g',0,none⟩),.int .u64 lb] w fun r w'=>r=.returned (.int .i64 0)/\(Z.poke (putM Z.S.P.a.mem p'.at_ ⟨lb,(msgV Z.S.P.a.mem p.at_).ws,[]⟩)).Ok fr N K M/\Step Z.hl (Z.poke (putM Z.S.P.a.mem p'.at_ ⟨lb,(msgV Z.S.P.a.mem p.at_).ws,[]⟩)).hl w w':=by
 have kg:=Q6s ok h hp hi Bd hb;obtain⟨Uq,Im⟩:=Z7h ok.core.inv.mem.pool.bytes p.at_;have HP:Hid (∀w1 a cap,Below w.heap.size w w1->IsU w1 a (msgV Z.S.P.a.mem p.at_).ws->Calls prog 181 #[.pointer (some ⟨g',0,none⟩),.int .u64 lb,.slice a (msgV Z.S.P.a.mem p.at_).ws.length cap,.slice none 0 0] w1 fun r w'=>r=.returned (.int .i64 0)/\(Z.poke (putM Z.S.P.a.mem p'.at_ ⟨lb,(msgV Z.S.P.a.mem p.at_).ws,[]⟩)).Ok fr N K M/\Step Z.hl (Z.poke (putM Z.S.P.a.mem p'.at_ ⟨lb,(msgV Z.S.P.a.mem p.at_).ws,[]⟩)).hl w w'):=fun w1 a cap Aq hu=>by
  have s1:=h.grown Aq;refine(Q9M ok s1.sep AG Kr hkd' (AsideV.step Al s1) ⟨lb,(msgV Z.S.P.a.mem p.at_).ws,[]⟩ hl Im cap 0 hu (fun j i hj=>by simp at hj) (by dsimp only;omega) (by simp)).mono ?_;rintro r w' (⟨he,_,_⟩|⟨_,rfl,ok2,st2⟩)
  ·rcases he with he|he|⟨i,he,_⟩
   ·dsimp only at he;omega
   ·simp at he
   ·cases he
  ·exact⟨rfl,ok2,s1.trans st2⟩
 have HI:Hid (∀r w1,MsgIs (msgV Z.S.P.a.mem p.at_) w r w1->∃(l:Int) (a:Option Addr) (cap:Nat) (xa:Option Addr) (xn xc:Nat),r=.returned (.agg #[.int .u64 l,.slice a (msgV Z.S.P.a.mem p.at_).ws.length cap,.slice xa xn xc])/\Below w.heap.size w w1/\IsU w1 a (msgV Z.S.P.a.mem p.at_).ws):=by
  rintro r w1⟨rw_,ri,rfl,o1,o2,st⟩;obtain⟨a,cap,e,hu⟩:=Z7f o1 st;obtain⟨xa,xn,xc,e2⟩:=Q1u ri (msgV Z.S.P.a.mem p.at_).its.length;rw[e,e2];exact⟨_,a,cap,xa,xn,xc,rfl,st.fresh,hu⟩
 generalize (Z.poke (putM Z.S.P.a.mem p'.at_ ⟨lb,(msgV Z.S.P.a.mem p.at_).ws,[]⟩))=Z2 at *
 generalize msgV Z.S.P.a.mem p.at_=X at *
 clear ok h hp hi Bd hb AG Kr hkd' Al hl Uq Im;go_enter func119,ntmps119;go_wp2_with fail;refine kg.mono ?_;intro r w1 hm;obtain⟨l0,a,cap,xa,xn,xc,rfl,Aq,hu⟩:=HI.out r w1 hm;have FP:=Q0a (HP.out w1 a cap Aq hu);have FC:=J2H w1 l0 a xa X.ws.length cap xn xc;clear hm Aq hu HP HI kg;go_wp2_with fail;refine FP.out.mono ?_;rintro r w2⟨rfl,ok2,st2⟩;have HR:Hid (Z2.Ok fr N K M/\Step Z.hl Z2.hl w w2):=⟨ok2,st2⟩
 clear ok2 st2 FP;go_wp2_with fail
 (try go_ret);exact⟨rfl,HR.out⟩
def BlkAt(Z:SP)(t:Nat)(a:Int)(p:Pl):Prop:=blkE Z t a=0/\p∈Z.S.l/\p.is=true/\p.kind=3/\a=(p.at_:Int)
def CPutR(Z:SP)(fr:List Nat)(N K:Nat)(M:Int)(t:Nat)(a:Int)(x:Msg)(w:World)(r:Ending)(w':World):Prop:=
 (blkE Z t a≠0/\r=.returned (.int .i64 (blkE Z t a))/\Below w.heap.size w w')∨∃p,BlkAt Z t a p/\Z0U Z fr N K M p x w r w'
theorem Q6t{w:World}{Z:SP}{fr:List Nat}{N K:Nat}{M:Int}(ok:Z.Ok fr N K M)(h:Sep w Z.hl){c k:Nat}(hc:CarC Z c k w){t:Nat}(ht:t<4294967296)(a:Int)(ha:a<9223372036854775808)(x:Msg)(hx:x.label<18446744073709551616)(I6:∀y∈x.ws,y<18446744073709551616){wa ia:Option Addr}(wc ic:Nat)(hu:IsU w wa x.ws)(Ff:IsI w ia x.its)(D7:x.ws.length<=1048576)(D3:x.its.length<=1048576) :
  Calls prog 107 #[.pointer (some ⟨c,0,none⟩),.agg #[.int .u32 t,.int .i64 a],.agg #[.int .u64 (x.label:Int),.slice wa x.ws.length wc,.slice ia x.its.length ic]] w (CPutR Z fr N K M t a x w):=by
 have b1:Below w.heap.size w (w.alloc (.cells #[.int .u32 t,.int .i64 a] 116)):=(Below.refl _ _).alloc (J3h _) _;have b2:Below w.heap.size w ((w.alloc (.cells #[.int .u32 t,.int .i64 a] 116)).alloc (.cells #[.int .u64 (x.label:Int),.slice wa x.ws.length wc,.slice ia x.its.length ic] 100)):=b1.alloc b1.size _;have h2:=h.grown b2;have kb:=Q2w ok h2.sep (hc.step rfl h2) ht a ha;have c1:=(Cells.new w 116 [.int .u32 t,.int .i64 a]).alloc (.cells #[.int .u64 (x.label:Int),.slice wa x.ws.length wc,.slice ia x.its.length ic] 100);have c2:=Cells.new (w.alloc (.cells #[.int .u32 t,.int .i64 a] 116)) 100 [.int .u64 (x.label:Int),.slice wa x.ws.length wc,.slice ia x.its.length ic]
 have hz:(w.alloc (.cells #[.int .u32 t,.int .i64 a] 116)).heap.size=w.heap.size+1:=by simp
 rw[hz] at c2;have e0:=c1.cell 0 _ rfl;have e1:=c1.cell 1 _ rfl;have HP:Hid (∀V p g,Below ((w.alloc (.cells #[.int .u32 t,.int .i64 a] 116)).alloc (.cells #[.int .u64 (x.label:Int),.slice wa x.ws.length wc,.slice ia x.its.length ic] 100)).heap.size ((w.alloc (.cells #[.int .u32 t,.int .i64 a] 116)).alloc (.cells #[.int .u64 (x.label:Int),.slice wa x.ws.length wc,.slice ia x.its.length ic] 100)) V->blkE Z t a=0->p∈Z.S.l->p.is=true->p.kind=3->a=(p.at_:Int)->BlkC Z p g V ->
   Cells V (w.heap.size+1) 100 [.int .u64 (x.label:Int),.slice wa x.ws.length wc,.slice ia x.its.length ic]/\Calls prog 181 #[.pointer (some ⟨g,0,none⟩),.int .u64 (x.label:Int),.slice wa x.ws.length wc,.slice ia x.its.length ic] V fun r w'=>∃e:Int,r=.returned (.int .i64 e)/\CPutR Z fr N K M t a x w (.returned (.int .i64 e)) w'):=fun V p g hV he hp hi hk BG hg=>by
  have hb:=Q0b (Q0b hV);have s1:=h.grown hb;refine⟨c2.same (hV.block _ c2.lt),(Q9M ok s1.sep hp hi hk hg x hx I6 wc ic (hu.below hb) (Ff.below hb) D7 D3).mono ?_⟩;rintro r w' (⟨h1,rfl,h3⟩|⟨h1,rfl,h3,h4⟩)
  ·exact⟨1,rfl,.inr ⟨p,⟨he,hp,hi,hk,BG⟩,.inl ⟨h1,rfl,hb.trans (h3.mono hb.size)⟩⟩⟩
  ·exact⟨0,rfl,.inr ⟨p,⟨he,hp,hi,hk,BG⟩,.inr ⟨h1,rfl,h3,s1.trans h4⟩⟩⟩
 have HE:Hid (∀V,Below ((w.alloc (.cells #[.int .u32 t,.int .i64 a] 116)).alloc (.cells #[.int .u64 (x.label:Int),.slice wa x.ws.length wc,.slice ia x.its.length ic] 100)).heap.size ((w.alloc (.cells #[.int .u32 t,.int .i64 a] 116)).alloc (.cells #[.int .u64 (x.label:Int),.slice wa x.ws.length wc,.slice ia x.its.length ic] 100)) V->blkE Z t a≠0->CPutR Z fr N K M t a x w (.returned (.int .i64 (blkE Z t a))) V):=fun V hV he=>.inl ⟨he,rfl,Q0b (Q0b hV)⟩
 unfold BlkR at kb;generalize CPutR Z fr N K M t a x w=Q at *
 generalize blkE Z t a=E at *
 obtain⟨lb,ws,its⟩:=x;dsimp only at *
 clear b1 b2 h2 ok h hc ht hu Ff hx I6 c1 c2 hz;go_enter func107,ntmps107;go_wp2_with fail;refine kb.mono ?_;rintro r w2⟨Ae,hr⟩;rcases hr with ⟨he,rfl⟩|⟨he,p,g,hp,hi,hk,BG,rfl,hg⟩
 ·have Ac:(E != 0)=true:=by simp[he]
  have HR:=Q0a (HE.out w2 Ae he);clear Ae kb HP HE he;go_wp2_with fail
  (try go_ret2);exact HR.out
 ·obtain⟨cm,kp⟩:=HP.out w2 p g Ae he hp hi hk BG hg;have m0:=cm.cell 0 _ rfl;have m1:=cm.cell 1 _ rfl;have m2:=cm.cell 2 _ rfl;have HK:=Q0a kp;subst he;clear Ae kb HP HE hp hi hk BG hg cm kp;go_wp2_with fail;refine HK.out.mono ?_;rintro r w3⟨e,rfl,hq⟩;have HR:=Q0a hq;clear hq HK;go_wp2_with fail
  (try go_ret2);exact HR.out
def COpnR(Z:SP)(fr:List Nat)(N K:Nat)(M:Int)(t:Nat)(a:Int)(v:Wi)(w:World)(r:Ending)(w':World):Prop:=
 (blkE Z t a≠0/\r=.returned (.int .i64 (blkE Z t a))/\Below w.heap.size w w')∨∃p,BlkAt Z t a p/\OpnR Z fr N K M p v w r w'
theorem Q7E{w:World}{Z:SP}{fr:List Nat}{N K:Nat}{M:Int}(ok:Z.Ok fr N K M)(h:Sep w Z.hl){c k:Nat}(hc:CarC Z c k w){t:Nat}(ht:t<4294967296)(a:Int)(ha:a<9223372036854775808)(v:Wi) :
  Calls prog 108 #[.pointer (some ⟨c,0,none⟩),.agg #[.int .u32 t,.int .i64 a],.agg #[.int .i64 v.base,.int .i64 v.order]] w (COpnR Z fr N K M t a v w):=by
 have b1:Below w.heap.size w (w.alloc (.cells #[.int .u32 t,.int .i64 a] 116)):=(Below.refl _ _).alloc (J3h _) _;have b2:Below w.heap.size w ((w.alloc (.cells #[.int .u32 t,.int .i64 a] 116)).alloc (.cells #[.int .i64 v.base,.int .i64 v.order] 65)):=b1.alloc b1.size _;have h2:=h.grown b2;have kb:=Q2w ok h2.sep (hc.step rfl h2) ht a ha;have c1:=(Cells.new w 116 [.int .u32 t,.int .i64 a]).alloc (.cells #[.int .i64 v.base,.int .i64 v.order] 65);have c2:=Cells.new (w.alloc (.cells #[.int .u32 t,.int .i64 a] 116)) 65 [.int .i64 v.base,.int .i64 v.order];have hz:(w.alloc (.cells #[.int .u32 t,.int .i64 a] 116)).heap.size=w.heap.size+1:=by simp
 rw[hz] at c2;have e0:=c1.cell 0 _ rfl;have e1:=c1.cell 1 _ rfl;have HP:Hid (∀V p g,Below ((w.alloc (.cells #[.int .u32 t,.int .i64 a] 116)).alloc (.cells #[.int .i64 v.base,.int .i64 v.order] 65)).heap.size ((w.alloc (.cells #[.int .u32 t,.int .i64 a] 116)).alloc (.cells #[.int .i64 v.base,.int .i64 v.order] 65)) V->blkE Z t a=0->p∈Z.S.l->p.is=true->p.kind=3->a=(p.at_:Int)->BlkC Z p g V ->
   Cells V (w.heap.size+1) 65 [.int .i64 v.base,.int .i64 v.order]/\Calls prog 182 #[.pointer (some ⟨g,0,none⟩),.agg #[.int .i64 v.base,.int .i64 v.order]] V fun r w'=>∃e:Int,r=.returned (.int .i64 e)/\COpnR Z fr N K M t a v w (.returned (.int .i64 e)) w'):=fun V p g hV he hp hi hk BG hg=>by
  have hb:=Q0b (Q0b hV);have s1:=h.grown hb;refine⟨c2.same (hV.block _ c2.lt),(Z3Q ok s1.sep hp hi hk hg v).mono ?_⟩;rintro r w' (⟨h1,rfl,h3⟩|⟨h1,rfl,h3,h4⟩)
  ·exact⟨1,rfl,.inr ⟨p,⟨he,hp,hi,hk,BG⟩,.inl ⟨h1,rfl,hb.trans (h3.mono hb.size)⟩⟩⟩
  ·exact⟨0,rfl,.inr ⟨p,⟨he,hp,hi,hk,BG⟩,.inr ⟨h1,rfl,h3,s1.trans h4⟩⟩⟩
 have HE:Hid (∀V,Below ((w.alloc (.cells #[.int .u32 t,.int .i64 a] 116)).alloc (.cells #[.int .i64 v.base,.int .i64 v.order] 65)).heap.size ((w.alloc (.cells #[.int .u32 t,.int .i64 a] 116)).alloc (.cells #[.int .i64 v.base,.int .i64 v.order] 65)) V->blkE Z t a≠0->COpnR Z fr N K M t a v w (.returned (.int .i64 (blkE Z t a))) V):=fun V hV he=>.inl ⟨he,rfl,Q0b (Q0b hV)⟩
 unfold BlkR at kb;generalize COpnR Z fr N K M t a v w=Q at *
 generalize blkE Z t a=E at *
 obtain⟨vb,vo⟩:=v;dsimp only at *
 clear b1 b2 h2 ok h hc ht c1 c2 hz;go_enter func108,ntmps108;go_wp2_with fail;refine kb.mono ?_;rintro r w2⟨Ae,hr⟩;rcases hr with ⟨he,rfl⟩|⟨he,p,g,hp,hi,hk,BG,rfl,hg⟩
 ·have Ac:(E != 0)=true:=by simp[he]
  have HR:=Q0a (HE.out w2 Ae he);clear Ae kb HP HE he;go_wp2_with fail
  (try go_ret2);exact HR.out
 ·obtain⟨cm,kp⟩:=HP.out w2 p g Ae he hp hi hk BG hg;have m0:=cm.cell 0 _ rfl;have m1:=cm.cell 1 _ rfl;have HK:=Q0a kp;subst he;clear Ae kb HP HE hp hi hk BG hg cm kp;go_wp2_with fail;refine HK.out.mono ?_;rintro r w3⟨e,rfl,hq⟩;have HR:=Q0a hq;clear hq HK;go_wp2_with fail
  (try go_ret2);exact HR.out
def Z7i(Z:SP)(t:Nat)(a:Int)(w:World)(r:Ending)(w':World):Prop:=
 (blkE Z t a≠0/\r=.returned (.tuple #[.agg #[.int .u64 0,.slice none 0 0,.slice none 0 0],.int .i64 (blkE Z t a)])/\Below w.heap.size w w') ∨
 ∃p v,BlkAt Z t a p/\r=.returned (.tuple #[v,.int .i64 0])/\MsgIs (msgV Z.S.P.a.mem p.at_) w (.returned v) w'
theorem MsgIs.box{x:Msg}{w w1:World}{r:Ending}{w':World}(h:MsgIs x w1 r w'){b:Nat}(hb:b<w1.heap.size)(hw:Below w.heap.size w w1)(Im:w.heap.size<=b)(AM:Env w)(v0 v1 v2:Value):MsgIs x w r (((w'.setCell ⟨b,0,none⟩ v0).setCell ⟨b,1,none⟩ v1).setCell ⟨b,2,none⟩ v2):=by
 obtain⟨rw_,ri,e,o1,o2,st⟩:=h;refine⟨rw_,ri,e,o1,o2,?_⟩;have s1:=((Sep.nil AM).grown hw).trans st;have Ac:∀g∈keys (rowH rw_ 83 1 (x.ws.map encU)++rowH ri 63 5 (x.its.flatMap It.cells)),g≠b:=fun g hg e=>by
  rcases st.new g hg with h|h
  ·cases h
  ·omega
 have CR:GB<=b:=J3i AM.gb Im;have BY:Chg (fun g=>g=b) w' (((w'.setCell ⟨b,0,none⟩ v0).setCell ⟨b,1,none⟩ v1).setCell ⟨b,2,none⟩ v2):=(((Chg.refl (fun g=>g=b) w').set ⟨b,0,none⟩ v0 (.inl rfl)).set ⟨b,1,none⟩ v1 (.inl rfl)).set ⟨b,2,none⟩ v2 (.inl rfl);refine⟨s1.sep.chg BY (fun g hg=>Ac g hg) (fun g hg=>by rw[hg];exact CR),?_,s1.new⟩;exact(s1.chg.trans BY fun i hi=>.inr (by rw[hi];exact Im))
theorem Q9O{w:World}{Z:SP}{fr:List Nat}{N K:Nat}{M:Int}(ok:Z.Ok fr N K M)(h:Sep w Z.hl){c k:Nat}(hc:CarC Z c k w){t:Nat}(ht:t<4294967296)(a:Int)(ha:a<9223372036854775808) :
  Calls prog 52 #[.pointer (some ⟨c,0,none⟩),.agg #[.int .u32 t,.int .i64 a]] w (Z7i Z t a w):=by
 have AM:=h.env;have b1:Below w.heap.size w (w.alloc (.cells #[.int .u32 t,.int .i64 a] 116)):=(Below.refl _ _).alloc (J3h _) _;have b2:Below w.heap.size w ((w.alloc (.cells #[.int .u32 t,.int .i64 a] 116)).alloc (.cells #[.int .u64 0,.slice none 0 0,.slice none 0 0] 100)):=b1.alloc b1.size _;have h2:=h.grown b2;have kb:=Q2w ok h2.sep (hc.step rfl h2) ht a ha;have c1:=(Cells.new w 116 [.int .u32 t,.int .i64 a]).alloc (.cells #[.int .u64 0,.slice none 0 0,.slice none 0 0] 100);have c2:=Cells.new (w.alloc (.cells #[.int .u32 t,.int .i64 a] 116)) 100 [.int .u64 0,.slice none 0 0,.slice none 0 0]
 have hz:(w.alloc (.cells #[.int .u32 t,.int .i64 a] 116)).heap.size=w.heap.size+1:=by simp
 rw[hz] at c2;have e0:=c1.cell 0 _ rfl;have e1:=c1.cell 1 _ rfl;have HP:Hid (∀V p g,Below ((w.alloc (.cells #[.int .u32 t,.int .i64 a] 116)).alloc (.cells #[.int .u64 0,.slice none 0 0,.slice none 0 0] 100)).heap.size ((w.alloc (.cells #[.int .u32 t,.int .i64 a] 116)).alloc (.cells #[.int .u64 0,.slice none 0 0,.slice none 0 0] 100)) V->blkE Z t a=0->p∈Z.S.l->p.is=true->p.kind=3->a=(p.at_:Int)->BlkC Z p g V ->
   Calls prog 116 #[.pointer (some ⟨g,0,none⟩)] V fun r w'=>∃(l:Int) (a1 a2:Option Addr) (n1 c1 n2 c2:Nat),r=.returned (.agg #[.int .u64 l,.slice a1 n1 c1,.slice a2 n2 c2])/\Cells w' (w.heap.size+1) 100 [.int .u64 0,.slice none 0 0,.slice none 0 0]/\∀v0 v1 v2,Z7i Z t a w (.returned (.tuple #[.agg #[.int .u64 l,.slice a1 n1 c1,.slice a2 n2 c2],.int .i64 0])) (((w'.setCell ⟨w.heap.size+1,0,none⟩ v0).setCell ⟨w.heap.size+1,1,none⟩ v1).setCell ⟨w.heap.size+1,2,none⟩ v2)):=fun V p g hV he hp hi hk BG hg=>by
  have hb:=Q0b (Q0b hV);have s1:=h.grown hb;have c3:=c2.same (hV.block _ c2.lt);refine(Q6s ok s1.sep hp hi hk hg).mono ?_;intro r w' hm;have Fr:=hm;obtain⟨rw_,ri,rfl,o1,o2,st⟩:=hm;obtain⟨a1,n1,k1,e1⟩:=Q1u rw_ (msgV Z.S.P.a.mem p.at_).ws.length;obtain⟨a2,n2,k2,e2⟩:=Q1u ri (msgV Z.S.P.a.mem p.at_).its.length;rw[e1,e2] at Fr ⊢;exact⟨_,a1,a2,n1,k1,n2,k2,rfl,c3.same (st.fresh.block _ c3.lt),fun v0 v1 v2=>.inr ⟨p,_,⟨he,hp,hi,hk,BG⟩,rfl,Fr.box c3.lt hb (J7p _) AM v0 v1 v2⟩⟩
 have HE:Hid (∀V,Below ((w.alloc (.cells #[.int .u32 t,.int .i64 a] 116)).alloc (.cells #[.int .u64 0,.slice none 0 0,.slice none 0 0] 100)).heap.size ((w.alloc (.cells #[.int .u32 t,.int .i64 a] 116)).alloc (.cells #[.int .u64 0,.slice none 0 0,.slice none 0 0] 100)) V->blkE Z t a≠0->Cells V (w.heap.size+1) 100 [.int .u64 0,.slice none 0 0,.slice none 0 0]/\Z7i Z t a w (.returned (.tuple #[.agg #[.int .u64 0,.slice none 0 0,.slice none 0 0],.int .i64 (blkE Z t a)])) V/\∀v0 v1 v2,Z7i Z t a w (.returned (.tuple #[.agg #[.int .u64 0,.slice none 0 0,.slice none 0 0],.int .i64 (blkE Z t a)])) (((V.setCell ⟨w.heap.size+1,0,none⟩ v0).setCell ⟨w.heap.size+1,1,none⟩ v1).setCell ⟨w.heap.size+1,2,none⟩ v2)):=fun V hV he=>by
  have hb:=Q0b (Q0b hV);exact⟨c2.same (hV.block _ c2.lt),.inl ⟨he,rfl,hb⟩,fun v0 v1 v2=>.inl ⟨he,rfl,((hb.setCell (J7p _) _).setCell (J7p _) _).setCell (J7p _) _⟩⟩
 unfold BlkR at kb;generalize Z7i Z t a w=Q at *
 generalize blkE Z t a=E at *
 clear b1 b2 h2 ok h hc ht c1 c2 hz AM;go_enter func52,ntmps52;go_wp2_with fail;refine kb.mono ?_;rintro r w2⟨Ae,hr⟩;rcases hr with ⟨he,rfl⟩|⟨he,p,g,hp,hi,hk,BG,rfl,hg⟩
 ·have Ac:(E != 0)=true:=by simp[he]
  obtain⟨cz,q1,q2⟩:=HE.out w2 Ae he;have G3:=Q0a q1;have Eg:=Q0a q2;have g0:=cz.cell 0 _ rfl;have g1:=cz.cell 1 _ rfl;have g2:=cz.cell 2 _ rfl;have f0:=cz.free 0;have f1:=cz.free 1;have f2:=cz.free 2;have Aa:=cz.lt;clear Ae kb HP HE he cz q1 q2;go_wp2_with fail
  first
   | refine bodyPost_ret (v:=.tuple #[.agg #[.int .u64 0,.slice none 0 0,.slice none 0 0],.int .i64 E]) (by simp[results,results52,go_sem,g0,g1,g2]) rfl G3.out
   | refine bodyPost_ret (v:=.tuple #[.agg #[.int .u64 0,.slice none 0 0,.slice none 0 0],.int .i64 E]) (by simp[results,results52,go_sem,g0,g1,g2]) rfl (Eg.out _ _ _)
 ·have kp:=Q0a (HP.out w2 p g Ae he hp hi hk BG hg);subst he;clear Ae kb HP HE hp hi hk BG hg;go_wp2_with fail;refine kp.out.mono ?_;rintro r w3⟨l,a1,a2,n1,c1,n2,c2,rfl,cz,hq⟩;have HR:=Q0a hq;have g0:=cz.cell 0 _ rfl;have g1:=cz.cell 1 _ rfl;have g2:=cz.cell 2 _ rfl;have f0:=cz.free 0;have f1:=cz.free 1;have f2:=cz.free 2;have Aa:=cz.lt;clear cz hq kp;go_wp2_with fail;refine bodyPost_ret (v:=.tuple #[.agg #[.int .u64 l,.slice a1 n1 c1,.slice a2 n2 c2],.int .i64 0]) (by simp[results,results52,go_sem,g0,g1,g2]) rfl (HR.out _ _ _)
theorem J0m:(prog.info? 90).map (fun i=>(i.zero,i.size,i.bytes))=some (some (.agg #[.int .i64 0,.int .i64 0,.int .i64 0,.bool false]),4,32):=by kernel_rfl
theorem Q2J:∀L:List Mv,(L.flatMap Mv.cells).length=L.length*4
 | []=>rfl
 | p::r=>by rw[J3E,J3N,Q2J r];simp[Mv.cells];omega
theorem Q1k:∀(L:List Mv) (k i:Nat) (m:Mv) (v:Value),L[k]?=some m->m.cells[i]?=some v->(L.flatMap Mv.cells)[k*4+i]?=some v
 | [],k,i,m,v,h,_=>by simp at h
 | p::r,k,i,m,v,h,hv=>by
  rw[J3E];have hi:i<4:=by have:=(J3y.1 hv).1;simpa[Mv.cells] using this
  have hp:p.cells.length=4:=rfl;cases k with
  | zero =>
   simp at h;subst h;rw[J6p (by rw[hp];omega),show 0*4+i=i by omega];exact hv
  | succ k =>
   rw[J6q (by rw[hp];omega),hp,show(k+1)*4+i-4=k*4+i by omega];exact Q1k r k i m v (by simpa using h) hv
def OutM(w wr:World)(v:Value)(L:List Mv):Prop:=wr.ownsRow w.heap.size 90 4 v L.length (L.flatMap Mv.cells)/\Below w.heap.size w wr
theorem OutM.nil(w:World):OutM w w (.slice none 0 0) []:=⟨World.ownsRow_nil _ _ _ _,Below.refl _ _⟩
theorem OutM.below{w wr w1:World}{v:Value}{L:List Mv}(h:OutM w wr v L)(hb:Below wr.heap.size wr w1):OutM w w1 v L:=
 ⟨Q9d h.1 (fun b Al=>hb.block b (h.1.lt b Al).2),h.2.trans (hb.mono h.2.size)⟩
theorem OutM.app{w wr:World}{v:Value}{L:List Mv}(h:OutM w wr v L)(hl:L.length<=16777216)(m:Mv)(ty:TypeId):∃v' w',(Builtin.append_ #[61,61] ty #[v,.slice (some ⟨wr.heap.size,0,none⟩) 1 1]).run prog (wr.alloc (.cells #[.int .i64 m.src,.int .i64 m.dst,.int .i64 m.r,.bool m.g] 90))=.ok v' w'/\OutM w w' v' (L++[m]):=by
 obtain⟨i0,hi,Bu,AT,Bk⟩:=info_parts J0m;have h2:=h.below ((Below.refl wr.heap.size wr).alloc (J3h _) (.cells #[.int .i64 m.src,.int .i64 m.dst,.int .i64 m.r,.bool m.g] 90));have hc:=Q2J L;obtain⟨v',w',hr,q1,q2,_,q4⟩:=run_append_own_at (P:=prog) (wr.alloc (.cells #[.int .i64 m.src,.int .i64 m.dst,.int .i64 m.r,.bool m.g] 90)) w.heap.size 61 ty 90 i0 (.agg #[.int .i64 0,.int .i64 0,.int .i64 0,.bool false]) 4 32 underlying61 hi Bu AT Bk rfl (by decide) v L.length (L.flatMap Mv.cells) h2.1 ⟨wr.heap.size,0,none⟩ 1 1 m.cells (by simp[Mv.cells]) (by
  intro j u hj;have:=(Cells.new wr 90 m.cells).cell j u hj;have e:(⟨wr.heap.size,0,none⟩:Addr).add j=⟨wr.heap.size,j,none⟩:=by unfold Addr.add;split <;> simp_all
  rw[e];exact this) (fun u hu=>by
   have h4:u=.int .i64 m.src∨u=.int .i64 m.dst∨u=.int .i64 m.r∨u=.bool m.g:=by simpa[Mv.cells] using hu
   rcases h4 with rfl|rfl|rfl|rfl <;> rfl) (by unfold maxLen;omega) (by omega) h2.2.size
 refine⟨v',w',hr,?_,?_⟩
 ·rw[J3N,J3M];have e:[m].flatMap Mv.cells=m.cells:=by simp
  rw[e];exact q1
 ·exact h2.2.trans ((Below.refl _ _).mono h2.2.size |>.grown q2 h2.2.size (fun b hb=>(h2.1.lt b hb).1))
def itMv(i:It)(v:Wi)(k:Nat):Mv:=⟨i.base+k,v.base+i.off+k,i.r,i.g⟩
def movV(f:Nat->Bool)(i:It)(v:Wi)(k:Nat):List Mv:=((List.range k).filter f).map (itMv i v)
theorem movV_succ(f:Nat->Bool)(i:It)(v:Wi)(k:Nat):movV f i v (k+1)=movV f i v k++if f k=true then [itMv i v k] else []:=by
 unfold movV;rw[J3s,J4Y,J6E];cases h:f k <;> simp[h]
theorem Z2j(f:Nat->Bool)(i:It)(v:Wi)(k:Nat):(movV f i v k).length<=k:=by
 unfold movV;rw[J4K];refine J3i (J5q _ _) ?_;rw[J4L];exact J3h _
def Q3g(i:It)(v:Wi):Bool:=Q0W i&&(Q0v v.base v.order&&(decide (i.base<128)==decide (v.base<128)))
theorem Q0L{b o:Int}(h:Q0v b o=true):0<=b/\0<=o/\o<=7/\b.toNat+2 ^ o.toNat<=256/\2 ^ o.toNat<=128:=by
 unfold Q0v at h;obtain⟨h1,h2,h3,h4,h5⟩:=of_decide_eq_true h;obtain⟨n,rfl⟩:=J4F h1;obtain⟨k,rfl⟩:=J4F h3;rw[J4g,J4g] at *
 have hk:k=0∨k=1∨k=2∨k=3∨k=4∨k=5∨k=6∨k=7:=by omega
 refine⟨h1,h3,h4,?_,?_⟩
 ·rcases hk with rfl|rfl|rfl|rfl|rfl|rfl|rfl|rfl <;> simp at h5 ⊢ <;> omega
 ·rcases hk with rfl|rfl|rfl|rfl|rfl|rfl|rfl|rfl <;> simp
end Go.Proofs.YtfidemmgofcnmaaGreatDoor
