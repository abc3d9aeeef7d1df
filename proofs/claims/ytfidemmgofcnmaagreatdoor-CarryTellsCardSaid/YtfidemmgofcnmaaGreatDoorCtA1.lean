/- CarryTells returns true at every input. No condition. Part of a proof. -/
import Derived.Test.YtfidemmgofcnmaaGreatDoorCtA0
set_option maxHeartbeats 16000000
set_option maxRecDepth 100000
set_option linter.unusedVariables false
namespace Go.Proofs.YtfidemmgofcnmaaGreatDoor
open Go.RowKit Go.Proofs.Tryz
theorem Q6w{w:World}(AM:Env w)(a0:Option Addr)(n cap:Nat)(A:Nat->A19)(hA:IsA19 w a0 n A)(fm:Nat)(hfm:fm<256)(tm:Nat)(htm:tm<256)(lb:Nat)(Dr:lb<18446744073709551616) :
  Calls prog 8 #[.slice a0 n cap,.int .u8 fm,.int .u8 tm,.int .u64 lb] w (Told w (.bool true)):=by
 have ka:=Q6m AM;have G8:Hid (∀W,Below w.heap.size w W->Calls prog 47 #[.slice a0 n cap] W fun r w'=>r=.returned (.bool (Q4o A n))/\W=w'):=fun W hb=>Q9p W a0 n cap A (hA.below hb)
 have GO:Hid (∀W,Below w.heap.size w W->Calls prog 43 #[.int .i64 65536] W fun r w'=>∃c k ge cap f,r=.returned (.tuple #[.pointer (some ⟨c,0,none⟩),.slice (some ⟨ge,0,none⟩) 5 cap,.bool true])/\CarB 65536 c k ge f W w'):=fun W hb=>Q3J (AM.below hb) 65536 (by omega)
 have HA:=Q0a hA;have SY:=Q0a Dr;have HF:Hid (Q4o A n=true->n<=40/\∀j,j<n->few1 (A j)):=Q9q;have ea:Int.tmod (fm:Int) 3=((fm%3:Nat):Int):=by rw[J3o (by omega)];omega
 have eb:Int.tmod (tm:Int) 3=((tm%3:Nat):Int):=by rw[J3o (by omega)];omega
 obtain⟨A5,SA⟩:∃q,q=fm%3:=⟨_,rfl⟩
 obtain⟨Cv,CQ⟩:∃q,q=tm%3:=⟨_,rfl⟩
 have Ie:A5<3:=by omega
 have An:Cv<3:=by omega
 rw[<- SA] at ea;rw[<- CQ] at eb;clear hA AM Dr SA CQ;have Vw:(0:Int)<=(fm:Int):=by omega
 have Ur:(fm:Int)<256:=by omega
 have UW:(0:Int)<=(tm:Int):=by omega
 have TC:(tm:Int)<256:=by omega
 go_enter func8,ntmps8;go_wp2_with fail;refine ka.mono ?_;rintro r w0⟨rfl,Bq⟩;have Di:=Q0a Bq;have kf:=G8.out w0 Bq;have HN:=Q0a (GO.out w0 Bq);clear Bq ka GO G8;go_wp2_with fail;refine kf.mono ?_;rintro r w0'⟨rfl,rfl⟩;clear kf;generalize Q4o A n=fv at *
 cases fv with
 | false =>
  clear HN HF;go_wp2_with fail
  (try go_ret);exact⟨rfl,Di.out⟩
 | true =>
 obtain⟨GS,DI⟩:=HF.out rfl;have Mj:=Q0a DI;clear HF DI;have E6:(0:Int)<=(n:Int):=by omega
 have Ge:(n:Int)<=40:=by omega
 have Ig:=Q0a GS;clear GS;go_wp2_with fail;refine HN.out.mono ?_;rintro r w1⟨c,k,ge,cp,f,rfl,hB⟩;have HQ:=Q0a (CaT.begin hB);clear HN hB;go_wp2_with fail
 go_loopg [12] n (fun gk iv wr=>∃i:Nat,iv=.int .i64 i/\i+gk=n/\CaT c k ge f (8+i) 0 (2+256*(i:Int)) w0 wr)
 case atStart=>exact⟨0,rfl,by omega,HQ.out⟩
 case round =>
 clear HQ;obtain⟨i,rfl,E5,hq⟩:=hrel;have DT:=Q0a E5;clear E5;by_cases Aa:i<n
 case pos =>
  have OC:=Ig.out;obtain⟨g,o,cs,rfl,M3,Be,kp⟩:=Z1r (cap:=cp) HA.out Di.out hq (by omega) (by omega) Aa (Mj.out i Aa);have Fd:(i:Int)<(n:Int):=by omega
  have BB:(0:Int)<=(i:Int):=by omega
  have KP:=Q0a kp;clear hq kp OC;go_upto_region 11 with fail
  iterate 16 go_step
  refine wpList_load_mid (by rfl) 102 _ (by rfl) g (o+i*29) (by rfl) cs _ M3 underlying102 (by rfl) Be ?_;clear M3 Be;go_wp2_with fail;refine KP.out.mono ?_;rintro rr w3⟨rfl,hq⟩;have HQ:=Q0a hq;clear hq KP;go_wp2_with fail;go_roundg (n-(i+1))
  case measure=>have:=DT.out;omega
  case rel=>exact⟨i+1,by go_num,by have:=DT.out;omega,HQ.out.mono (by omega) (by omega) (by omega)⟩
 case neg =>
  have JT:¬(i:Int)<(n:Int):=by omega
  have V0:i<=40:=by have:=Ig.out;have:=DT.out;omega
  have As:∀q,q<3->atE f q<=65536:=fun q DM=>hq.atE_lt (by omega)
  obtain⟨Z,fr,ok,j,hc,he,st⟩:=hq;have BK:Hid (Below w0.heap.size w0 wr):=st.fresh;have De:Hid (∀V,Below wr.heap.size wr V->∀q,q<3->V.cell? ⟨ge,q*2,none⟩=some (.int .u32 (tkE f q:Int))/\V.cell? ⟨ge,q*2+1,none⟩=some (.int .i64 (atE f q:Int))):=fun V hV q hq=>by
   have h1:=AsideV.step he (st.sep.grown hV);obtain⟨e1,e2⟩:=Q4I f (i:=q) (by omega);rw[J4x q 2];obtain⟨_,x1,_,_,z1⟩:=h1 _ _ e1;obtain⟨_,x2,_,_,z2⟩:=h1 _ _ e2;cases x1;cases x2;exact⟨z1,z2⟩
  have Cc:Hid (∀V,Below wr.heap.size wr V->∀q,q<3->Calls prog 52 #[.pointer (some ⟨c,0,none⟩),.agg #[.int .u32 (tkE f q:Int),.int .i64 (atE f q:Int)]] V fun r w'=>∃p:MP,r=.returned (.tuple #[.agg #[.int .u64 (p.l:Int),.slice p.a p.n p.c,.slice p.x p.xn p.xc],.int .i64 0])/\Below V.heap.size V w'/\p.Is (msgV Z.S.P.a.mem (atE f q)) w'/\p.From V.heap.size):=fun V hV q hq=>by
   have s1:=st.sep.grown hV;refine(Z8W ok j s1.sep (hc.step rfl s1) hq (As q hq)).mono ?_;rintro r w'⟨a,x,ca,cx,rfl,hb,⟨h1,h2⟩,h3,h4⟩;exact⟨⟨_,a,_,ca,x,_,cx⟩,rfl,hb,⟨rfl,rfl,rfl,h1,h2⟩,h3,h4⟩
  have J8:Hid (∀V,Below wr.heap.size wr V->∀q,q<3->Calls prog 53 #[.pointer (some ⟨c,0,none⟩),.agg #[.int .u32 (tkE f q:Int),.int .i64 (atE f q:Int)]] V (Told V (.tuple #[.agg #[.int .i64 (winV Z.S.P.a.mem (atE f q)).base,.int .i64 (winV Z.S.P.a.mem (atE f q)).order],.int .i64 0]))):=fun V hV q hq=>Z8X ok j (st.sep.grown hV).sep (hc.step rfl (st.sep.grown hV)) hq (As q hq)
  have Gx:Hid (∀V,Below wr.heap.size wr V->Calls prog 54 #[.pointer (some ⟨c,0,none⟩),.agg #[.int .u32 (tkE f A5:Int),.int .i64 (atE f A5:Int)],.agg #[.int .u32 (tkE f Cv:Int),.int .i64 (atE f Cv:Int)],.int .u64 lb] V fun r w'=>∃er:Int,r=.returned (.int .i64 er)/\TlQ c ge f (fun q=>msgV Z.S.P.a.mem (atE f q)) (fun q=>winV Z.S.P.a.mem (atE f q)) A5 Cv lb w0 wr.heap.size V er w'):=fun V hV=>by
   have s1:=st.sep.grown hV;refine(Z8D ok j s1.sep (hc.step rfl s1) (by omega) Ie An (As _ Ie) (As _ An) SY.out).mono ?_;rintro r w'⟨er,Z',fr',rfl,⟨R1,R2⟩,ok',j',es,s2⟩;have s3:=s1.trans s2;refine⟨er,rfl,R1,(st.trans s3).fresh,⟨s2.chg.size,s2.keep st.sep (J1E _)⟩,fun q=>msgV Z'.S.P.a.mem (atE f q),fun q hq=>(R2 q hq).2,fun W hW=>?_⟩;have s4:=s3.trans (s3.sep.grown hW);refine⟨fun q hq=>?_,fun q hq=>?_,fun q hq=>?_⟩
   ·have h1:=AsideV.step he s4;obtain⟨e1,e2⟩:=Q4I f (i:=q) (by omega);rw[J4x q 2];obtain⟨_,x1,_,_,z1⟩:=h1 _ _ e1;obtain⟨_,x2,_,_,z2⟩:=h1 _ _ e2;cases x1;cases x2;exact⟨z1,z2⟩
   ·refine(Z8W ok' j' s4.sep (hc.step es s4) hq (As q hq)).mono ?_;rintro r w2⟨a,x,ca,cx,rfl,hb,⟨h1,h2⟩,_⟩;exact⟨⟨_,a,_,ca,x,_,cx⟩,rfl,hb,⟨rfl,rfl,rfl,h1,h2⟩⟩
   ·have:=Z8X ok' j' s4.sep (hc.step es s4) hq (As q hq);rw[(R2 q hq).1] at this;exact this
  have Iu:Hid (∀q,q<3->(msgV Z.S.P.a.mem (atE f q)).ws.length<=8/\(msgV Z.S.P.a.mem (atE f q)).its.length<=2):=fun q _=>⟨(Q7T ok.core.inv.mem.pool.bytes (atE f q)).1,(Q7U _ _).1⟩
  generalize hms:(fun q=>msgV Z.S.P.a.mem (atE f q))=ms at *
  generalize Jq:(fun q=>winV Z.S.P.a.mem (atE f q))=wi at *
  have Lm:∀q,msgV Z.S.P.a.mem (atE f q)=ms q:=fun q=>by rw[<- hms]
  have LI:∀q,winV Z.S.P.a.mem (atE f q)=wi q:=fun q=>by rw[<- Jq]
  simp only[Lm,LI] at Cc J8 Iu;clear ok j hc he st As Mj HA DT hms Jq Lm LI;obtain⟨wq,UF⟩:∃wq:World,wq=wr:=⟨_,rfl⟩
  subst UF;go_upto_region 13 with fail;have hz:=Z8E;generalize hZ:(mps fun _=>MP.z).toArray=ZC at *
  have Bd:=Z8F;generalize hZ2:(wps fun _=>⟨0,0⟩).toArray=ZD at *
  iterate 12 (first|refine Q4p rfl 111 rfl _ rfl wq.heap.size rfl ZC hz ?_|refine Q4p rfl 112 rfl _ rfl (wq.alloc (.cells ZC 111)).heap.size rfl ZD Bd ?_|go_step|skip)
  clear hz Bd;generalize hwA:wq.alloc (.cells ZC 111)=wA at *
  generalize hwz:wA.alloc (.cells ZD 112)=wz at *
  have Od:wA.heap.size=wq.heap.size+1:=by rw[<- hwA];simp
  have Be:wz.heap.size=wq.heap.size+2:=by rw[<- hwz];simp[Od]
  have OU:Hid (Below wq.heap.size wq wz):=by
   subst hwz;subst hwA;exact((Below.refl _ _).alloc (J1E _) _).alloc (by simp) _
  have C9:Hid (Cells wz wq.heap.size 111 (mps fun _=>MP.z)):=by
   subst hwz;subst hwA;subst hZ;exact(Cells.new wq 111 (mps fun _=>MP.z)).alloc _
  have DG:Hid (Cells wz (wq.heap.size+1) 112 (wps fun _=>⟨0,0⟩)):=by
   rw[<- Od];subst hwz;subst hZ2;exact Cells.new wA 112 (wps fun _=>⟨0,0⟩)
  try rw[Od]
  have PF:=Q0a Be;clear hwA hwz hZ hZ2 Od Be;have JB:Hid (wq.heap.size<wz.heap.size/\wq.heap.size+1<wz.heap.size):=by have:=PF.out;exact⟨by omega,by omega⟩
  have Lo:Hid (∀F:Nat->MP,∀G:Nat->Wi,∀q V,q<3->(∀j,j<q->(F j).Is (ms j) V/\(F j).From wz.heap.size/\G j=wi j)->∀p:MP,∀V',p.Is (ms q) V'->p.From wz.heap.size->Stay wz.heap.size V V'->∀j,j<q+1->(updM F q p j).Is (ms j) V'/\(updM F q p j).From wz.heap.size/\updM G q (wi q) j=wi j):=fun F G q V _ h p V' h1 h2 s j hj=>by
   unfold updM;by_cases e:j=q
   ·subst e;rw[if_pos rfl,if_pos rfl];exact⟨h1,h2,rfl⟩
   ·rw[if_neg e,if_neg e];obtain⟨a1,a2,a3⟩:=h j (by omega);exact⟨a1.stay a2 s,a2,a3⟩
  generalize hB2e:wq.heap.size+1=B2 at *
  have MW:=Q0a hB2e;clear hB2e;go_wp2_with fail
  go_loopg [17] 3 (fun gk iv wr=>∃(q:Nat) (F:Nat->MP) (G:Nat->Wi),iv=.int .i64 q/\q+gk=3/\Cells wr wq.heap.size 111 (mps F)/\Cells wr B2 112 (wps G)/\Below wq.heap.size wq wr/\wz.heap.size<=wr.heap.size/\∀j,j<q->(F j).Is (ms j) wr/\(F j).From wz.heap.size/\G j=wi j)
  case atStart=>exact⟨0,_,_,rfl,rfl,C9.out,DG.out,OU.out,J1E _,fun j hj=>by omega⟩
  case round =>
  have P6:Hid (wq.heap.size<=wz.heap.size):=OU.out.size;clear C9 DG OU;obtain⟨q,F,G,rfl,IS,Dj,Bx,hb,Be,A4⟩:=hrel;have JM:=Q0a IS;have Cx:=Q0a A4;have C9:=Q0a Dj;have DG:=Q0a Bx;have Hh:=Q0a hb;have LM:=Q0a Be;by_cases Aa:q<3
  case pos =>
   obtain⟨e0,e1⟩:=De.out wr hb q Aa;have kg:=Q0a (Cc.out wr hb q Aa);have QR:(q:Int)<3:=by omega
   have Et:(0:Int)<=(q:Int):=by omega
   have BV:=Q0a Aa;clear IS A4 Dj Bx hb Be Aa;go_wp2_with fail;refine kg.out.mono ?_;rintro rv w5⟨p,rfl,Au,LB,C8⟩;have c5:=C9.out.same (Au.block _ C9.out.lt);have d5:=DG.out.same (Au.block _ DG.out.lt);have z0:=c5.cell _ _ (Q4S F BV.out).1;have z1:=c5.cell _ _ (Q4S F BV.out).2.1;have z2:=c5.cell _ _ (Q4S F BV.out).2.2;have y0:=c5.free (q*3);have y1:=c5.free (q*3+1);have y2:=c5.free (q*3+2);have QV:=Q0a d5;have EL:=Q0a c5;have B6:=Q0a Au;have IV:=Q0a LB;have R6:=Q0a C8;clear c5 d5 Au LB C8 kg e0 e1;go_upto_region 19 with fail;have KK:Hid (Cells (((w5.setCell ⟨wq.heap.size,q*3,none⟩ (.int .u64 (p.l:Int))).setCell ⟨wq.heap.size,q*3+1,none⟩ (.slice p.a p.n p.c)).setCell ⟨wq.heap.size,q*3+2,none⟩ (.slice p.x p.xn p.xc)) wq.heap.size 111 (mps (updM F q p))):=by
    have:=((EL.out.set (q*3) (.int .u64 (p.l:Int))).set (q*3+1) (.slice p.a p.n p.c)).set (q*3+2) (.slice p.x p.xn p.xc);rw[J0B F BV.out p] at this;exact this
   have Ac:B2≠wq.heap.size:=by have:=MW.out;omega
   have Sm:Hid (Cells (((w5.setCell ⟨wq.heap.size,q*3,none⟩ (.int .u64 (p.l:Int))).setCell ⟨wq.heap.size,q*3+1,none⟩ (.slice p.a p.n p.c)).setCell ⟨wq.heap.size,q*3+2,none⟩ (.slice p.x p.xn p.xc)) B2 112 (wps G)):=((QV.out.set_other ⟨wq.heap.size,q*3,none⟩ _ Ac).set_other ⟨wq.heap.size,q*3+1,none⟩ _ Ac).set_other ⟨wq.heap.size,q*3+2,none⟩ _ Ac;have U5:Hid (Stay wz.heap.size w5 (((w5.setCell ⟨wq.heap.size,q*3,none⟩ (.int .u64 (p.l:Int))).setCell ⟨wq.heap.size,q*3+1,none⟩ (.slice p.a p.n p.c)).setCell ⟨wq.heap.size,q*3+2,none⟩ (.slice p.x p.xn p.xc))):=(((Stay.refl _ _).set JB.out.1 _ _).set JB.out.1 _ _).set JB.out.1 _ _
   have Fp:Hid (Below wq.heap.size wq (((w5.setCell ⟨wq.heap.size,q*3,none⟩ (.int .u64 (p.l:Int))).setCell ⟨wq.heap.size,q*3+1,none⟩ (.slice p.a p.n p.c)).setCell ⟨wq.heap.size,q*3+2,none⟩ (.slice p.x p.xn p.xc))):=(((Hh.out.trans (B6.out.mono Hh.out.size)).setCell (J1E _) _).setCell (J1E _) _).setCell (J1E _) _;clear z0 z1 z2 y0 y1 y2 EL QV C9 DG Ac;generalize ((w5.setCell ⟨wq.heap.size,q*3,none⟩ (.int .u64 (p.l:Int))).setCell ⟨wq.heap.size,q*3+1,none⟩ (.slice p.a p.n p.c)).setCell ⟨wq.heap.size,q*3+2,none⟩ (.slice p.x p.xn p.xc)=w6 at *
   obtain⟨e0,e1⟩:=De.out w6 Fp.out q BV.out;have kw:=Q0a (J8.out w6 Fp.out q BV.out);go_wp2_with fail;refine kw.out.mono ?_;rintro rv w7⟨rfl,Cl⟩;have c7:=KK.out.same (Cl.block _ KK.out.lt);have d7:=Sm.out.same (Cl.block _ Sm.out.lt);have z0:=d7.cell _ _ (Z1t G BV.out).1;have z1:=d7.cell _ _ (Z1t G BV.out).2;have y0:=d7.free (q*2);have y1:=d7.free (q*2+1);have Bk:wq.heap.size≠B2:=by have:=MW.out;omega
   have T4:Hid (Cells ((w7.setCell ⟨B2,q*2,none⟩ (.int .i64 (wi q).base)).setCell ⟨B2,q*2+1,none⟩ (.int .i64 (wi q).order)) wq.heap.size 111 (mps (updM F q p))):=(c7.set_other ⟨B2,q*2,none⟩ _ Bk).set_other ⟨B2,q*2+1,none⟩ _ Bk;have VE:Hid (Cells ((w7.setCell ⟨B2,q*2,none⟩ (.int .i64 (wi q).base)).setCell ⟨B2,q*2+1,none⟩ (.int .i64 (wi q).order)) B2 112 (wps (updM G q (wi q)))):=by
    have:=(d7.set (q*2) (.int .i64 (wi q).base)).set (q*2+1) (.int .i64 (wi q).order);rw[J0C G BV.out (wi q)] at this;exact this
   have U3:Hid (Below wq.heap.size wq ((w7.setCell ⟨B2,q*2,none⟩ (.int .i64 (wi q).base)).setCell ⟨B2,q*2+1,none⟩ (.int .i64 (wi q).order))):=((Fp.out.trans (Cl.mono Fp.out.size)).setCell (by show wq.heap.size<=B2;have:=MW.out;omega) _).setCell (by show wq.heap.size<=B2;have:=MW.out;omega) _;have O4:Hid (Stay wz.heap.size w5 ((w7.setCell ⟨B2,q*2,none⟩ (.int .i64 (wi q).base)).setCell ⟨B2,q*2+1,none⟩ (.int .i64 (wi q).order))):=((U5.out.trans (Stay.of Cl)).set JB.out.2 _ _).set JB.out.2 _ _;have TW:=Q0a (Lo.out F G q wr BV.out Cx.out p _ (IV.out.stay (R6.out.mono LM.out) O4.out) (R6.out.mono LM.out) ((Stay.of B6.out).trans O4.out))
   have Uh:Hid (wz.heap.size<=((w7.setCell ⟨B2,q*2,none⟩ (.int .i64 (wi q).base)).setCell ⟨B2,q*2+1,none⟩ (.int .i64 (wi q).order)).heap.size):=J1F LM.out (J1F B6.out.size O4.out.size);clear c7 d7 Cl Bk kw e0 e1;go_wp2_with fail;go_roundg (3-(q+1))
   case measure=>have:=JM.out;have:=BV.out;omega
   case rel=>exact⟨q+1,updM F q p,updM G q (wi q),by go_num,by have:=JM.out;have:=BV.out;omega,T4.out,VE.out,U3.out,Uh.out,TW.out⟩
  case neg =>
   have Jb:¬(q:Int)<3:=by omega
   obtain rfl:q=3:=by omega
   have Px:Hid (∀V,Below wr.heap.size wr V->(V.cell? ⟨ge,A5*2,none⟩=some (.int .u32 (tkE f A5:Int))/\V.cell? ⟨ge,A5*2+1,none⟩=some (.int .i64 (atE f A5:Int)))/\V.cell? ⟨ge,Cv*2,none⟩=some (.int .u32 (tkE f Cv:Int))/\V.cell? ⟨ge,Cv*2+1,none⟩=some (.int .i64 (atE f Cv:Int))):=fun V hV=>⟨De.out V (Hh.out.trans (hV.mono Hh.out.size)) _ Ie,De.out V (Hh.out.trans (hV.mono Hh.out.size)) _ An⟩
   have Rw:Hid (∀V,Below wr.heap.size wr V->Calls prog 54 #[.pointer (some ⟨c,0,none⟩),.agg #[.int .u32 (tkE f A5:Int),.int .i64 (atE f A5:Int)],.agg #[.int .u32 (tkE f Cv:Int),.int .i64 (atE f Cv:Int)],.int .u64 lb] V fun r w'=>∃er:Int,r=.returned (.int .i64 er)/\((w'.cell? ⟨ge,A5*2,none⟩=some (.int .u32 (tkE f A5:Int))/\w'.cell? ⟨ge,A5*2+1,none⟩=some (.int .i64 (atE f A5:Int)))/\w'.cell? ⟨ge,Cv*2,none⟩=some (.int .u32 (tkE f Cv:Int))/\w'.cell? ⟨ge,Cv*2+1,none⟩=some (.int .i64 (atE f Cv:Int)))/\TlQ c ge f ms wi A5 Cv lb w0 wq.heap.size V er w'):=fun V hV=>(Gx.out V (Hh.out.trans (hV.mono Hh.out.size))).mono fun r w' ⟨er,e,hQ⟩=>by
    have hr:=hQ.2.2.2.choose_spec.2 w' (Below.refl _ _);exact⟨er,e,⟨hr.1 _ Ie,hr.1 _ An⟩,hQ⟩
   have Vd:(A5:Int)<3:=by omega
   have Qu:(0:Int)<=(A5:Int):=by omega
   have I5:(Cv:Int)<3:=by omega
   have TX:(0:Int)<=(Cv:Int):=by omega
   have T7:(A5:Int)<5:=by omega
   have Uf:(Cv:Int)<5:=by omega
   have BA:Hid (Below wr.heap.size wr wr.drew):=(Below.refl _ _).drew;have Es:Hid (Below wr.heap.size wr wr):=Below.refl _ _;clear IS A4 Dj Bx hb Be Aa Cc J8 Gx De Lo JB;go_upto_region 20 with fail
   go_cut [18] from 82 to 92 (fun e wc=>∃(er:Int) (V:World),e=.int .i64 er/\Below wr.heap.size wr V/\TlQ c ge f ms wi A5 Cv lb w0 wq.heap.size V er wc)
   case first =>
    clear Cx C9 DG Hh LM
    go_region_held3 (fun V=>(V.cell? ⟨ge,A5*2,none⟩=some (.int .u32 (tkE f A5:Int))/\V.cell? ⟨ge,A5*2+1,none⟩=some (.int .i64 (atE f A5:Int)))/\V.cell? ⟨ge,Cv*2,none⟩=some (.int .u32 (tkE f Cv:Int))/\V.cell? ⟨ge,Cv*2+1,none⟩=some (.int .i64 (atE f Cv:Int)))
     (first|exact Hu.out|exact Px.out _ BA.out|exact Px.out _ Es.out)
     (first|(go_at_call 54;refine(Rw.out _ BA.out).mono ?_;rintro rv w'⟨er,rfl,hS,hQ⟩;have Hu:=Q0a hS;have HR:=Q0a hQ;clear hS hQ))
    all_goals (go_wp2_with fail;go_meet;exact⟨er,wr.drew,rfl,BA.out,HR.out⟩)
   obtain⟨er,V,rfl,hV,R1,Kf,Aq,nw,Fh,Dy⟩:=hcut;obtain⟨wy,VC⟩:∃wy:World,wy=wc:=⟨_,rfl⟩
   subst VC;have BY:Stay wq.heap.size wr wy:=(Stay.of hV).trans Aq;have IV:Hid (∀W,Below wy.heap.size wy W->∀j,j<3->(F j).Is (ms j) W):=fun W hW j hj=>by
    obtain⟨a1,a2,_⟩:=Cx.out j hj;exact(a1.stay (a2.mono P6.out) BY).below hW
   have KN:Hid (∀W,Below wy.heap.size wy W->Cells W wq.heap.size 111 (mps F)):=fun W hW=>by
    have:=BY.cells (J1E _) C9.out;exact this.same (hW.block _ this.lt)
   have GT:Hid (∀W,Below wy.heap.size wy W->Cells W B2 112 (wps G)):=fun W hW=>by
    have:=BY.cells (b:=B2) (by have:=MW.out;omega) DG.out;exact this.same (hW.block _ this.lt)
   have HG:Hid (∀j,j<3->G j=wi j):=fun j hj=>(Cx.out j hj).2.2
   have Dx:=Q0a Dy;have K2:=Q0a Fh;have EB:=Q0a R1;have GI:Hid (∀W,Below wy.heap.size wy W->Told w (.bool true) (.returned (.bool true)) W):=fun W hW=>⟨rfl,Di.out.trans ((Kf.trans (hW.mono Kf.size)).mono Di.out.size)⟩
   clear hV R1 Kf Aq Fh Dy BY Cx C9 DG BA Es Px Rw Hh LM;go_wp2_with fail
   go_loopg [19] 3 (fun gk iv wr=>∃q:Nat,iv=.int .i64 q/\q+gk=3/\Below wy.heap.size wy wr)
   case atStart=>exact⟨0,rfl,rfl,Below.refl _ _⟩
   case round =>
   obtain⟨q,rfl,IS,hb⟩:=hrel;have JM:=Q0a IS;have BZ:=Q0a hb;by_cases Aa:q<3
   case pos =>
    obtain⟨A3,BW,Ij⟩:=Dx.out wr hb;obtain⟨e0,e1⟩:=A3 q Aa;have kg:=Q0a (BW q Aa);have QR:(q:Int)<3:=by omega
    have Et:(0:Int)<=(q:Int):=by omega
    have BV:=Q0a Aa;clear IS hb Aa A3 BW Ij;go_wp2_with fail;refine kg.out.mono ?_;rintro rv w5⟨p,rfl,Au,LB⟩;have BR:Below wy.heap.size wy (w5.alloc (.cells #[.int .u64 (p.l:Int),.slice p.a p.n p.c,.slice p.x p.xn p.xc] 100)):=(BZ.out.trans (Au.mono BZ.out.size)).alloc (J1F BZ.out.size Au.size) _;have Ox:Hid (Cells (w5.alloc (.cells #[.int .u64 (p.l:Int),.slice p.a p.n p.c,.slice p.x p.xn p.xc] 100)) w5.heap.size 100 p.cells):=Cells.new w5 100 p.cells;have Ms:Hid (p.Is (nw q) (w5.alloc (.cells #[.int .u64 (p.l:Int),.slice p.a p.n p.c,.slice p.x p.xn p.xc] 100))):=LB.below ((Below.refl _ _).alloc (J1E _) _)
    obtain⟨A3,-,Ij⟩:=Dx.out _ BR;clear e0 e1;obtain⟨e0,e1⟩:=A3 q BV.out;have kw:=Q0a (Ij q BV.out);have I8:=Q0a BR;clear kg Au LB BR A3 Ij;go_wp2_with fail;refine kw.out.mono ?_;rintro rv w6⟨rfl,Ch⟩;generalize (w5.alloc (.cells #[.int .u64 (p.l:Int),.slice p.a p.n p.c,.slice p.x p.xn p.xc] 100))=wv1 at *
    generalize w5.heap.size=b20 at *
    have KZ:=Ox.out.same (Ch.block _ Ox.out.lt);have Lw:=Q0a (Ms.out.below Ch);have EE:Below wy.heap.size wy (w6.alloc (.cells #[.int .i64 (wi q).base,.int .i64 (wi q).order] 65)):=(I8.out.trans (Ch.mono I8.out.size)).alloc (J1F I8.out.size Ch.size) _;have Bd:(w6.alloc (.cells #[.int .i64 (wi q).base,.int .i64 (wi q).order] 65)).heap.size=w6.heap.size+1:=by simp
    have Ix:Hid (Cells (w6.alloc (.cells #[.int .i64 (wi q).base,.int .i64 (wi q).order] 65)) w6.heap.size 65 (wi q).cells):=Cells.new w6 65 (wi q).cells;have PN:Hid (Cells (w6.alloc (.cells #[.int .i64 (wi q).base,.int .i64 (wi q).order] 65)) b20 100 p.cells):=KZ.alloc _;have Gm:Hid (p.Is (nw q) (w6.alloc (.cells #[.int .i64 (wi q).base,.int .i64 (wi q).order] 65))):=Lw.out.below ((Below.refl _ _).alloc (J1E _) _);have hm:=KN.out _ EE;have z0:=hm.cell _ _ (Q4S F BV.out).1;have z1:=hm.cell _ _ (Q4S F BV.out).2.1;have z2:=hm.cell _ _ (Q4S F BV.out).2.2;have G1:=Q0a EE;have Sw:=Q0a Bd
    clear e0 e1 Ch kw Ox Ms Lw KZ EE hm Bd I8;go_upto_region 27 with fail;generalize Sh:(w6.alloc (.cells #[.int .i64 (wi q).base,.int .i64 (wi q).order] 65))=wv2 at *
    generalize hb22:w6.heap.size=b22 at *
    clear Sh hb22 z0 z1 z2;have Mn:=Q0a Sw.out;clear Sw;obtain⟨b24,JD⟩:∃b:Nat,b=b22+1:=⟨_,rfl⟩
    have Gr:wv2.heap.size=b24:=by rw[JD];exact Mn.out
    rw[<- JD];have Hb:Hid (Cells (wv2.alloc (.cells #[.int .u64 ((F q).l:Int),.slice (F q).a (F q).n (F q).c,.slice (F q).x (F q).xn (F q).xc] 100)) b24 100 (F q).cells):=by
     have:=Cells.new wv2 100 (F q).cells;rw[Gr] at this;exact this
    have B7:Hid (Below wy.heap.size wy (wv2.alloc (.cells #[.int .u64 ((F q).l:Int),.slice (F q).a (F q).n (F q).c,.slice (F q).x (F q).xn (F q).xc] 100))):=G1.out.alloc G1.out.size _;have Nq:Hid (Cells (wv2.alloc (.cells #[.int .u64 ((F q).l:Int),.slice (F q).a (F q).n (F q).c,.slice (F q).x (F q).xn (F q).xc] 100)) b20 100 p.cells):=PN.out.alloc _;have I4:Hid (Cells (wv2.alloc (.cells #[.int .u64 ((F q).l:Int),.slice (F q).a (F q).n (F q).c,.slice (F q).x (F q).xn (F q).xc] 100)) b22 65 (wi q).cells):=Ix.out.alloc _;have PW:Hid (p.Is (nw q) (wv2.alloc (.cells #[.int .u64 ((F q).l:Int),.slice (F q).a (F q).n (F q).c,.slice (F q).x (F q).xn (F q).xc] 100))):=Gm.out.below ((Below.refl _ _).alloc (J1E _) _)
    have GU:b20≠b24/\b22≠b24:=by
     have h1:=PN.out.lt;have h2:=Ix.out.lt;omega
    have Jf:=Q0a GU;have Rs:wq.heap.size≠b24/\B2≠b24/\wy.heap.size<=b24:=by
     have h1:=(KN.out wy (Below.refl _ _)).lt;have h2:=(GT.out wy (Below.refl _ _)).lt;have h3:=G1.out.size;omega
    have IT:=Q0a Rs;have NB:Hid (∀j,j<3->(F j).Is (ms j) wv2):=IV.out wv2 G1.out;have HU:Hid (Below wv2.heap.size wv2 (wv2.alloc (.cells #[.int .u64 ((F q).l:Int),.slice (F q).a (F q).n (F q).c,.slice (F q).x (F q).xn (F q).xc] 100))):=(Below.refl _ _).alloc (J1E _) _;have G5:=Q0a Gr;clear PN Ix G1 GU Rs Gr Mn JD PW;generalize (wv2.alloc (.cells #[.int .u64 ((F q).l:Int),.slice (F q).a (F q).n (F q).c,.slice (F q).x (F q).xn (F q).xc] 100))=wx at *
    obtain⟨bb,Dg⟩:∃b:Bool,b=decide (er=0/\q=Cv):=⟨_,rfl⟩
    have Hq:=Q0a Dg;clear Dg
    go_cut [124] from 115 to 124 (fun b wc=>b=.bool bb/\wc=wx)
    case first =>
     by_cases h0:er=0
     ·subst h0;by_cases hk:q=Cv
      ·subst hk;have e2:bb=true:=by rw[Hq.out];simp
       subst e2;clear Hq;go_wp2_with fail;go_meet;exact⟨rfl,rfl⟩
      ·have e2:bb=false:=by rw[Hq.out];simp[hk]
       subst e2;have e3:((q:Int)==(Cv:Int))=false:=by simp;omega
       clear Hq hk;go_wp2_with fail;go_meet;exact⟨rfl,rfl⟩
     ·have e2:bb=false:=by rw[Hq.out];simp[h0]
      subst e2;have e3:(er==0)=false:=by simp[h0]
      clear Hq h0;go_wp2_with fail;go_meet;exact⟨rfl,rfl⟩
    obtain⟨rfl,RE⟩:=hcut;subst wc;cases bb with
    | true =>
     have FG:=of_decide_eq_true Hq.out.symm;obtain⟨h0,hk⟩:=FG;have Fh:=K2.out q BV.out;rw[if_pos ⟨h0,hk⟩] at Fh;have Kd:=Gm.out;rw[Fh] at Kd;have QU:=NB.out A5 Ie;have hm:=KN.out wx B7.out;have z1:=hm.cell _ _ (Q4S F Ie).2.1;have f0:=Hb.out.free 0;have f1:=Hb.out.free 1;have f2:=Hb.out.free 2;have g0:=Hb.out.cell 0 _ rfl;have g1:=Hb.out.cell 1 _ rfl;have g2:=Hb.out.cell 2 _ rfl;have FW:=Q0a Kd;have Hg:=Q0a QU;clear Fh Kd QU hm h0 hk;go_upto_region 29 with fail;have JC:Hid (Cells (((wx.setCell ⟨b24,0,none⟩ (.int .u64 lb)).setCell ⟨b24,1,none⟩ (.slice (F A5).a (F A5).n (F A5).c)).setCell ⟨b24,2,none⟩ (.slice none 0 0)) b24 100 [.int .u64 lb,.slice (F A5).a (F A5).n (F A5).c,.slice none 0 0]):=((Hb.out.set 0 (.int .u64 lb)).set 1 (.slice (F A5).a (F A5).n (F A5).c)).set 2 (.slice none 0 0)
     have GN:Hid (Cells (((wx.setCell ⟨b24,0,none⟩ (.int .u64 lb)).setCell ⟨b24,1,none⟩ (.slice (F A5).a (F A5).n (F A5).c)).setCell ⟨b24,2,none⟩ (.slice none 0 0)) b20 100 p.cells):=((Nq.out.set_other ⟨b24,0,none⟩ _ Jf.out.1).set_other ⟨b24,1,none⟩ _ Jf.out.1).set_other ⟨b24,2,none⟩ _ Jf.out.1;have JK:Hid (Cells (((wx.setCell ⟨b24,0,none⟩ (.int .u64 lb)).setCell ⟨b24,1,none⟩ (.slice (F A5).a (F A5).n (F A5).c)).setCell ⟨b24,2,none⟩ (.slice none 0 0)) b22 65 (wi q).cells):=((I4.out.set_other ⟨b24,0,none⟩ _ Jf.out.2).set_other ⟨b24,1,none⟩ _ Jf.out.2).set_other ⟨b24,2,none⟩ _ Jf.out.2
     have Kj:Hid (Cells (((wx.setCell ⟨b24,0,none⟩ (.int .u64 lb)).setCell ⟨b24,1,none⟩ (.slice (F A5).a (F A5).n (F A5).c)).setCell ⟨b24,2,none⟩ (.slice none 0 0)) B2 112 (wps G)):=(((GT.out wx B7.out).set_other ⟨b24,0,none⟩ _ IT.out.2.1).set_other ⟨b24,1,none⟩ _ IT.out.2.1).set_other ⟨b24,2,none⟩ _ IT.out.2.1;have DA:Hid (Below wy.heap.size wy (((wx.setCell ⟨b24,0,none⟩ (.int .u64 lb)).setCell ⟨b24,1,none⟩ (.slice (F A5).a (F A5).n (F A5).c)).setCell ⟨b24,2,none⟩ (.slice none 0 0))):=((B7.out.setCell IT.out.2.2 _).setCell IT.out.2.2 _).setCell IT.out.2.2 _;have Ff:Hid (Below wv2.heap.size wv2 (((wx.setCell ⟨b24,0,none⟩ (.int .u64 lb)).setCell ⟨b24,1,none⟩ (.slice (F A5).a (F A5).n (F A5).c)).setCell ⟨b24,2,none⟩ (.slice none 0 0))):=((HU.out.setCell (Nat.le_of_eq G5.out) _).setCell (Nat.le_of_eq G5.out) _).setCell (Nat.le_of_eq G5.out) _
     clear z1 f0 f1 f2 g0 g1 g2;generalize ((wx.setCell ⟨b24,0,none⟩ (.int .u64 lb)).setCell ⟨b24,1,none⟩ (.slice (F A5).a (F A5).n (F A5).c)).setCell ⟨b24,2,none⟩ (.slice none 0 0)=wl at *
     have Nh:Hid (∀V,Below wl.heap.size wl V->Calls prog 55 #[.agg #[.int .u64 (p.l:Int),.slice p.a p.n p.c,.slice p.x p.xn p.xc],.agg #[.int .u64 lb,.slice (F A5).a (F A5).n (F A5).c,.slice none 0 0]] V (Told V (.bool true))):=fun V hV=>by
      have hb:=Ff.out.trans (hV.mono Ff.out.size);rw[FW.out.l,FW.out.n,FW.out.xn,Hg.out.n];exact Q9r V lb p.a (F A5).a p.x none p.c (F A5).c p.xc 0 (ms A5).ws [] (FW.out.u.below hb) (Hg.out.u.below hb) (by have:=(Iu.out A5 Ie).1;omega) (fun j i h=>by simp at h) (fun j i h=>by simp at h) (by simp)
     clear Ff FW Hg;have If:Hid (∀V,Below wl.heap.size wl V->(V.cell? ⟨b20,0,none⟩=some (.int .u64 (p.l:Int))/\V.cell? ⟨b20,1,none⟩=some (.slice p.a p.n p.c)/\V.cell? ⟨b20,2,none⟩=some (.slice p.x p.xn p.xc))/\(V.cell? ⟨b24,0,none⟩=some (.int .u64 lb)/\V.cell? ⟨b24,1,none⟩=some (.slice (F A5).a (F A5).n (F A5).c)/\V.cell? ⟨b24,2,none⟩=some (.slice none 0 0))/\(V.cell? ⟨b22,0,none⟩=some (.int .i64 (wi q).base)/\V.cell? ⟨b22,1,none⟩=some (.int .i64 (wi q).order))/\V.cell? ⟨B2,q*2,none⟩=some (.int .i64 (wi q).base)/\V.cell? ⟨B2,q*2+1,none⟩=some (.int .i64 (wi q).order)):=fun V hV=>by
      have n1:=GN.out.same (hV.block _ GN.out.lt);have n2:=JC.out.same (hV.block _ JC.out.lt);have n3:=JK.out.same (hV.block _ JK.out.lt);have n4:=Kj.out.same (hV.block _ Kj.out.lt);have n5:=Z1t G BV.out;rw[HG.out q BV.out] at n5;exact⟨⟨n1.cell 0 _ rfl,n1.cell 1 _ rfl,n1.cell 2 _ rfl⟩,⟨n2.cell 0 _ rfl,n2.cell 1 _ rfl,n2.cell 2 _ rfl⟩,⟨n3.cell 0 _ rfl,n3.cell 1 _ rfl⟩,n4.cell _ _ n5.1,n4.cell _ _ n5.2⟩
     have BA:Hid (Below wl.heap.size wl wl.drew):=(Below.refl _ _).drew;have Es:Hid (Below wl.heap.size wl wl):=Below.refl _ _;clear GN JC JK Kj IV KN GT HG K2 Gm NB HU G5 Hb B7 Nq I4 Jf IT Hq
     go_cut [149] from 131 to 149 (fun b wc=>b=.bool false/\Below wl.heap.size wl wc)
     case first =>
      clear Dx GI DA
      go_region_held3 (fun V=>(V.cell? ⟨b20,0,none⟩=some (.int .u64 (p.l:Int))/\V.cell? ⟨b20,1,none⟩=some (.slice p.a p.n p.c)/\V.cell? ⟨b20,2,none⟩=some (.slice p.x p.xn p.xc))/\(V.cell? ⟨b24,0,none⟩=some (.int .u64 lb)/\V.cell? ⟨b24,1,none⟩=some (.slice (F A5).a (F A5).n (F A5).c)/\V.cell? ⟨b24,2,none⟩=some (.slice none 0 0))/\(V.cell? ⟨b22,0,none⟩=some (.int .i64 (wi q).base)/\V.cell? ⟨b22,1,none⟩=some (.int .i64 (wi q).order))/\V.cell? ⟨B2,q*2,none⟩=some (.int .i64 (wi q).base)/\V.cell? ⟨B2,q*2+1,none⟩=some (.int .i64 (wi q).order))
       (first|exact If.out _ M9.out|exact If.out _ BA.out|exact If.out _ Es.out)
       (first|(go_at_call 55;refine(Nh.out _ BA.out).mono ?_;rintro rv w'⟨rfl,Aj⟩;have M9:=Q0a (BA.out.trans (Aj.mono BA.out.size));clear Aj))
      all_goals (go_wp2_with fail;go_meet;exact⟨rfl,M9.out⟩)
     obtain⟨rfl,Cb⟩:=hcut;have IH:=Q0a (DA.out.trans (Cb.mono DA.out.size));clear Cb If Nh BA Es DA;go_wp2_with fail;go_roundg (3-(q+1))
     case measure=>have:=JM.out;have:=BV.out;omega
     case rel=>exact⟨q+1,by go_num,by have:=JM.out;have:=BV.out;omega,IH.out⟩
    | false =>
     have Aw:=of_decide_eq_false Hq.out.symm;have Fh:=K2.out q BV.out;rw[if_neg Aw] at Fh;have Kd:=Gm.out;rw[Fh] at Kd;have FW:=Q0a Kd;have Hg:=Q0a (NB.out q BV.out);have JC:=Q0a Hb.out;have GN:=Q0a Nq.out;have JK:=Q0a I4.out;have Kj:=Q0a (GT.out wx B7.out);have DA:=Q0a B7.out;have Ff:=Q0a HU.out;clear Fh Kd Aw;obtain⟨wl,TD⟩:∃wl:World,wl=wx:=⟨_,rfl⟩
     subst TD;go_upto_region 29 with fail;have Nh:Hid (∀V,Below wl.heap.size wl V->Calls prog 55 #[.agg #[.int .u64 (p.l:Int),.slice p.a p.n p.c,.slice p.x p.xn p.xc],.agg #[.int .u64 ((F q).l:Int),.slice (F q).a (F q).n (F q).c,.slice (F q).x (F q).xn (F q).xc]] V (Told V (.bool true))):=fun V hV=>by
      have hb:=Ff.out.trans (hV.mono Ff.out.size);rw[FW.out.l,FW.out.n,FW.out.xn,Hg.out.l,Hg.out.n,Hg.out.xn];exact Q9r V (ms q).label p.a (F q).a p.x (F q).x p.c (F q).c p.xc (F q).xc (ms q).ws (ms q).its (FW.out.u.below hb) (Hg.out.u.below hb) (by have:=(Iu.out q BV.out).1;omega) (FW.out.i.below hb) (Hg.out.i.below hb) (Iu.out q BV.out).2
     clear Ff FW Hg;have If:Hid (∀V,Below wl.heap.size wl V->(V.cell? ⟨b20,0,none⟩=some (.int .u64 (p.l:Int))/\V.cell? ⟨b20,1,none⟩=some (.slice p.a p.n p.c)/\V.cell? ⟨b20,2,none⟩=some (.slice p.x p.xn p.xc))/\(V.cell? ⟨b24,0,none⟩=some (.int .u64 ((F q).l:Int))/\V.cell? ⟨b24,1,none⟩=some (.slice (F q).a (F q).n (F q).c)/\V.cell? ⟨b24,2,none⟩=some (.slice (F q).x (F q).xn (F q).xc))/\(V.cell? ⟨b22,0,none⟩=some (.int .i64 (wi q).base)/\V.cell? ⟨b22,1,none⟩=some (.int .i64 (wi q).order))/\V.cell? ⟨B2,q*2,none⟩=some (.int .i64 (wi q).base)/\V.cell? ⟨B2,q*2+1,none⟩=some (.int .i64 (wi q).order)):=fun V hV=>by
      have n1:=GN.out.same (hV.block _ GN.out.lt);have n2:=JC.out.same (hV.block _ JC.out.lt);have n3:=JK.out.same (hV.block _ JK.out.lt);have n4:=Kj.out.same (hV.block _ Kj.out.lt);have n5:=Z1t G BV.out;rw[HG.out q BV.out] at n5;exact⟨⟨n1.cell 0 _ rfl,n1.cell 1 _ rfl,n1.cell 2 _ rfl⟩,⟨n2.cell 0 _ rfl,n2.cell 1 _ rfl,n2.cell 2 _ rfl⟩,⟨n3.cell 0 _ rfl,n3.cell 1 _ rfl⟩,n4.cell _ _ n5.1,n4.cell _ _ n5.2⟩
     have BA:Hid (Below wl.heap.size wl wl.drew):=(Below.refl _ _).drew;have Es:Hid (Below wl.heap.size wl wl):=Below.refl _ _;clear GN JC JK Kj IV KN GT HG K2 Gm NB HU G5 Hb B7 Nq I4 Jf IT Hq
     go_cut [149] from 131 to 149 (fun b wc=>b=.bool false/\Below wl.heap.size wl wc)
     case first =>
      clear Dx GI DA
      go_region_held3 (fun V=>(V.cell? ⟨b20,0,none⟩=some (.int .u64 (p.l:Int))/\V.cell? ⟨b20,1,none⟩=some (.slice p.a p.n p.c)/\V.cell? ⟨b20,2,none⟩=some (.slice p.x p.xn p.xc))/\(V.cell? ⟨b24,0,none⟩=some (.int .u64 ((F q).l:Int))/\V.cell? ⟨b24,1,none⟩=some (.slice (F q).a (F q).n (F q).c)/\V.cell? ⟨b24,2,none⟩=some (.slice (F q).x (F q).xn (F q).xc))/\(V.cell? ⟨b22,0,none⟩=some (.int .i64 (wi q).base)/\V.cell? ⟨b22,1,none⟩=some (.int .i64 (wi q).order))/\V.cell? ⟨B2,q*2,none⟩=some (.int .i64 (wi q).base)/\V.cell? ⟨B2,q*2+1,none⟩=some (.int .i64 (wi q).order))
       (first|exact If.out _ M9.out|exact If.out _ BA.out|exact If.out _ Es.out)
       (first|(go_at_call 55;refine(Nh.out _ BA.out).mono ?_;rintro rv w'⟨rfl,Aj⟩;have M9:=Q0a (BA.out.trans (Aj.mono BA.out.size));clear Aj))
      all_goals (go_wp2_with fail;go_meet;exact⟨rfl,M9.out⟩)
     obtain⟨rfl,Cb⟩:=hcut;have IH:=Q0a (DA.out.trans (Cb.mono DA.out.size));clear Cb If Nh BA Es DA;go_wp2_with fail;go_roundg (3-(q+1))
     case measure=>have:=JM.out;have:=BV.out;omega
     case rel=>exact⟨q+1,by go_num,by have:=JM.out;have:=BV.out;omega,IH.out⟩
   case neg =>
    have Jb:¬(q:Int)<3:=by omega
    have HR:=Q0a (GI.out wr hb);by_cases h0:er=0
    ·subst h0;clear IS hb Dx K2 EB;go_wp2_with fail
     (try go_ret);exact HR.out
    ·have hn:=EB.out h0;have hx:0<(F A5).xn:=by
      rw[(IV.out wr hb A5 Ie).xn];cases h:(ms A5).its with
      | nil=>exact absurd h hn
      | cons a l=>simp
     have hm:=KN.out wr hb;have z2:=hm.cell _ _ (Q4S F Ie).2.2;have Ws:(er==0)=false:=by simp[h0]
     have UJ:(0:Int)<((F A5).xn:Int):=by omega
     have SS:decide ((0:Int)<((F A5).xn:Int))=true:=by simp;omega
     have QZ:decide (0<(F A5).xn)=true:=by simp;omega
     clear IS hb Dx K2 EB hn hm h0;go_wp2_with fail
     (try go_ret);exact HR.out
end Go.Proofs.YtfidemmgofcnmaaGreatDoor
