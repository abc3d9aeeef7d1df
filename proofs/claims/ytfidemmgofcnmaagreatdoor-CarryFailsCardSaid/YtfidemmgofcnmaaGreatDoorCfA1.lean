/- CarryFails returns true at every input. No condition. Part of a proof. -/
import Derived.Test.YtfidemmgofcnmaaGreatDoorCfA0
set_option maxHeartbeats 16000000
set_option maxRecDepth 100000
set_option linter.unusedVariables false
namespace Go.Proofs.YtfidemmgofcnmaaGreatDoor
open Go.RowKit Go.Proofs.Tryz
theorem Q6K{w:World}(AM:Env w)(a0:Option Addr)(n cap:Nat)(A:Nat->A19)(hA:IsA19 w a0 n A)(x:A19)(hx:x.Wf)(hlx:A19.Lies w x) :
  Calls prog 10 #[.slice a0 n cap,.agg x.cells.toArray] w (Told w (.bool true)):=by
 obtain⟨-,g1,g2,-,go_,gx,glc,-,-,-,-,-,gL,-,-⟩:=hx;obtain⟨lL,-,-,-⟩:=hlx;obtain⟨kind,xk,xt,xs,xo,xx,la,lcp,L,lb,wa,wcp,W,ia,icp,I,⟨vb,vo⟩,⟨akind,an,ak,am,at_,au,as_,ar,aself,ala,all,alc,aL,⟨ib,io,ir,iff,ig⟩,⟨awb,awo⟩⟩⟩:=x;dsimp only at *
 have AO:(A19.cells ⟨kind,xk,xt,xs,xo,xx,la,lcp,L,lb,wa,wcp,W,ia,icp,I,⟨vb,vo⟩,⟨akind,an,ak,am,at_,au,as_,ar,aself,ala,all,alc,aL,⟨ib,io,ir,iff,ig⟩,⟨awb,awo⟩⟩⟩).toArray=#[.int .i64 kind,.int .i64 xk,.int .i64 xt,.int .i64 xs,.int .i64 xo,.int .u64 xx,.slice la L.length lcp,.int .u64 lb,.slice wa W.length wcp,.slice ia I.length icp,.int .i64 vb,.int .i64 vo,.int .i64 akind,.int .i64 an,.int .i64 ak,.int .i64 am,.int .i64 at_,.int .i64 au,.int .i64 as_,.int .i64 ar,.bool aself,.slice ala all alc,.int .i64 ib,.int .i64 io,.int .i64 ir,.int .i64 iff,.bool ig,.int .i64 awb,.int .i64 awo]:=rfl;rw[AO]
 clear AO;obtain⟨C,hC⟩:∃C:List Value,C=[.int .i64 kind,.int .i64 xk,.int .i64 xt,.int .i64 xs,.int .i64 xo,.int .u64 xx,.slice la L.length lcp,.int .u64 lb,.slice wa W.length wcp,.slice ia I.length icp,.int .i64 vb,.int .i64 vo,.int .i64 akind,.int .i64 an,.int .i64 ak,.int .i64 am,.int .i64 at_,.int .i64 au,.int .i64 as_,.int .i64 ar,.bool aself,.slice ala all alc,.int .i64 ib,.int .i64 io,.int .i64 ir,.int .i64 iff,.bool ig,.int .i64 awb,.int .i64 awo]:=⟨_,rfl⟩
 have Iu:(w.alloc (.cells #[.int .i64 kind,.int .i64 xk,.int .i64 xt,.int .i64 xs,.int .i64 xo,.int .u64 xx,.slice la L.length lcp,.int .u64 lb,.slice wa W.length wcp,.slice ia I.length icp,.int .i64 vb,.int .i64 vo,.int .i64 akind,.int .i64 an,.int .i64 ak,.int .i64 am,.int .i64 at_,.int .i64 au,.int .i64 as_,.int .i64 ar,.bool aself,.slice ala all alc,.int .i64 ib,.int .i64 io,.int .i64 ir,.int .i64 iff,.bool ig,.int .i64 awb,.int .i64 awo] 102))=w.alloc (.cells C.toArray 102):=by rw[hC]
 have Aq:Below w.heap.size w (w.alloc (.cells C.toArray 102)):=(Below.refl _ _).alloc (J3h _) _;have BP:Hid (∀V,Below (w.alloc (.cells C.toArray 102)).heap.size (w.alloc (.cells C.toArray 102)) V->Below w.heap.size w V/\Cells V w.heap.size 102 C):=fun V hV=>⟨Q0b hV,(Cells.new w 102 C).same (hV.block _ (by simp))⟩
 obtain⟨W1,Hu⟩:∃W1,W1=w.alloc (.cells C.toArray 102):=⟨_,rfl⟩
 rw[<- Hu] at Iu BP Aq;clear Hu;have ka:=Q6y (AM.below Aq);have Hs:Hid (∀W,Below w.heap.size w W->Calls prog 47 #[.slice a0 n cap] W fun r w'=>r=.returned (.bool (Q4w A n))/\W=w'):=fun W hb=>Q9S W a0 n cap A (hA.below hb)
 have GD:Hid (∀W,Below w.heap.size w W->Calls prog 43 #[.int .i64 4500] W fun r w'=>∃c k ge cap f,r=.returned (.tuple #[.pointer (some ⟨c,0,none⟩),.slice (some ⟨ge,0,none⟩) 5 cap,.bool true])/\CarB 4500 c k ge f W w'):=fun W hb=>Q3S (AM.below hb) 4500 (by omega)
 have HA:=Q0a hA;have HF:Hid (Q4w A n=true->n<=40/\∀j,j<n->few1 (A j)):=Q9U;have PY:=Q0a lL;have PB:=Q0a gL;have N3:=Q0a go_;have Wp:=Q0a gx;have VI:=Q0a g1;have US:=Q0a g2;have HC:=Q0a hC;have DW:Hid (L.length=L.length):=rfl;unfold maxLen at glc;have OP:(0:Int)<=(L.length:Int):=by omega
 obtain⟨nL,N7⟩:∃nL,nL=L.length:=⟨_,rfl⟩
 rw[<- N7] at OP;have Lv:=Q0a N7;have NP:(w.alloc (.cells #[.int .i64 kind,.int .i64 xk,.int .i64 xt,.int .i64 xs,.int .i64 xo,.int .u64 xx,.slice la nL lcp,.int .u64 lb,.slice wa W.length wcp,.slice ia I.length icp,.int .i64 vb,.int .i64 vo,.int .i64 akind,.int .i64 an,.int .i64 ak,.int .i64 am,.int .i64 at_,.int .i64 au,.int .i64 as_,.int .i64 ar,.bool aself,.slice ala all alc,.int .i64 ib,.int .i64 io,.int .i64 ir,.int .i64 iff,.bool ig,.int .i64 awb,.int .i64 awo] 102))=W1:=by rw[N7,Iu]
 rw[<- N7];clear hA AM lL gL go_ gx g1 g2 hC Aq Iu N7 glc DW;go_enter func10,ntmps10;go_upto_region 1 with fail
 try rw[NP]
 clear NP;go_wp2_with fail;refine ka.mono ?_;rintro r w0⟨rfl,Bv⟩;have PF:=Q0a Bv;have Cj:Hid (Below w.heap.size w w0):=(BP.out w0 Bv).1;have kf:=Hs.out w0 Cj.out;have HN:=Q0a (GD.out w0 Cj.out);have c6:w0.cell? ⟨w.heap.size,6,none⟩=some (.slice la nL lcp):=(BP.out w0 Bv).2.cell 6 _ (by rw[HC.out,Lv.out];rfl);clear Bv ka GD Hs;go_wp2_with fail;refine kf.mono ?_;rintro r w0'⟨rfl,rfl⟩;clear kf;generalize Q4w A n=fv at *
 cases fv with
 | false =>
  clear HN HF;go_wp2_with fail
  (try go_ret);exact⟨rfl,Cj.out⟩
 | true =>
 obtain⟨Hj,Ea⟩:=HF.out rfl;have Mb:=Q0a Ea;clear HF Ea;by_cases Jt:nL<=200
 case neg =>
  have D3:(200:Int)<(nL:Int):=by omega
  clear HN;go_wp2_with fail
  (try go_ret);exact⟨rfl,Cj.out⟩
 case pos =>
 have D3:(nL:Int)<=200:=by omega
 have NF:=Q0a Jt;clear Jt;have Em:(0:Int)<=(n:Int):=by omega
 have G7:(n:Int)<=40:=by omega
 have GM:=Q0a Hj;clear Hj;go_wp2_with fail;refine HN.out.mono ?_;rintro r w1⟨c,k,ge,cp,f,rfl,hB⟩;have HQ:=Q0a (CaT.begin hB);clear HN hB;go_wp2_with fail
 go_loopg [8] n (fun gk iv wr=>∃i:Nat,iv=.int .i64 i/\i+gk=n/\CaT c k ge f (8+i) 0 (2+256*(i:Int)) w0 wr)
 case atStart=>exact⟨0,rfl,by omega,HQ.out⟩
 case round =>
 clear HQ;obtain⟨i,rfl,Jm,hq⟩:=hrel;have Jf:=Q0a Jm;clear Jm;by_cases Aa:i<n
 case pos =>
  have QS:=GM.out;obtain⟨g,o,cs,rfl,Mc,Br,kp⟩:=Z2n (cap:=cp) HA.out Cj.out hq (by omega) (by omega) Aa (Mb.out i Aa);have Ff:(i:Int)<(n:Int):=by omega
  have BH:(0:Int)<=(i:Int):=by omega
  have KP:=Q0a kp;clear hq kp QS;go_upto_region 11 with fail
  iterate 16 go_step
  refine wpList_load_mid (by rfl) 102 _ (by rfl) g (o+i*29) (by rfl) cs _ Mc underlying102 (by rfl) Br ?_;clear Mc Br;go_wp2_with fail;refine KP.out.mono ?_;rintro rr w3⟨rfl,hq⟩;have HQ:=Q0a hq;clear hq KP;go_wp2_with fail;go_roundg (n-(i+1))
  case measure=>have:=Jf.out;omega
  case rel=>exact⟨i+1,by go_num,by have:=Jf.out;omega,HQ.out.mono (by omega) (by omega) (by omega)⟩
 case neg =>
  have Mo:¬(i:Int)<(n:Int):=by omega
  have Rc:i<=40:=by have:=GM.out;have:=Jf.out;omega
  have Au:∀q,q<5->atE f q<=65536:=fun q C5=>hq.atE_lt C5
  obtain⟨Z,fr,ok,j,hc,he,st⟩:=hq;have hm:Z.S.P.a.mem.length=65536:=by rw[ok.core.inv.mem.pool.mem,j.top]
  have KB:=Q0a (Z9V ok hm hc he st);have KP:=Q0a (Q3h st.sep hc);have A3:=Q2g xk;have Az:=Q2g xt;have LG:Hid (∀V,Calls prog 56 #[.int .i64 xk] V fun r w'=>r=.returned (.int .i64 ((Q2M xk:Nat):Int))/\V=w'):=fun V=>Q2K V xk VI.out
  have FP:Hid (∀V,Calls prog 56 #[.int .i64 xt] V fun r w'=>r=.returned (.int .i64 ((Q2M xt:Nat):Int))/\V=w'):=fun V=>Q2K V xt US.out
  have C7:=Q0a ok;have HJ:=Q0a j;have IW:=Q0a hm;have Pr:=Q0a Au;have Ik:Hid (∀V,Below w0.heap.size w0 V->Cells V w.heap.size 102 C):=fun V hV=>(BP.out V (PF.out.trans (hV.mono PF.out.size))).2
  clear ok j hc he st hm Au Mb HA Jf BP PF c6;generalize Q2M xk=p1 at *
  generalize Q2M xt=p2 at *
  go_wp2_with fail;refine KP.out.1.mono ?_;rintro rv w2⟨rfl,rfl⟩;go_wp2_with fail;refine KP.out.2.1.mono ?_;rintro rv w2⟨rfl,rfl⟩;go_wp2_with fail;refine KP.out.2.2.1.mono ?_;rintro rv w2⟨rfl,rfl⟩;go_wp2_with fail;refine KP.out.2.2.2.mono ?_;rintro rv w2⟨rfl,rfl⟩;go_wp2_with fail;refine KB.out.mono ?_;rintro rv w1'⟨g,gc,rfl,kB,kF⟩;have T6:=Q0a kB;have KF:=Q0a kF;clear kB kF KB KP;go_wp2_with fail;refine T6.out.mono ?_;rintro rv w2⟨rfl,rfl⟩;go_wp2_with fail;refine KF.out.mono ?_;rintro rv w2⟨fa,fc,F,rfl,hF,kQ,kU⟩;have HF:=Q0a hF;have KQ:=Q0a kQ;have KU:=Q0a kU;clear hF kQ kU T6 KF;generalize hFl:F.length=nF at *
  have Oq:=Q0a hFl;clear hFl;go_wp2_with fail;refine KQ.out.mono ?_;rintro rv w3⟨rfl,rfl⟩;go_wp2_with fail;refine KU.out.mono ?_;rintro rv w3⟨rfl,TJ,TU,kL⟩;have SO:=Q0a TJ;have SF:=Q0a TU;have KL:=Q0a kL;clear TJ TU kL KQ KU;go_wp2_with fail;refine SO.out.mono ?_;rintro rv w4⟨rfl,rfl⟩;go_wp2_with fail;refine SF.out.mono ?_;rintro rv w4⟨rfl,rfl⟩;go_wp2_with fail;refine KL.out.mono ?_;rintro rv w4⟨v1,rfl,S4,S9,kZ⟩;have Uf:=Q0a S4;have TI:=Q0a S9;have KZ:=Q0a kZ;clear S4 S9 kZ SO SF KL;go_wp2_with fail;refine Uf.out.mono ?_;rintro rv w5⟨rfl,rfl⟩;go_wp2_with fail;refine TI.out.mono ?_
  rintro rv w5⟨rfl,rfl⟩;go_wp2_with fail;refine KZ.out.mono ?_;rintro rv w5⟨v2,rfl,oa,oc,w6,AK,Gs⟩;have MT:=Q0a Gs;clear Gs Uf TI KZ;have Sa:(obL Z.S.l).length<=512:=J1Y (by rw[C7.out.core.inv.len];omega);have O2:=Q0a Sa;clear Sa;generalize hO:(obL Z.S.l).length=nO at *
  have HO:=Q0a hO;clear hO;go_wp2_with (at_builtin;refine Lib.wpList_append_run _ rfl _ _ _ _ rfl _ _ rfl rfl _ _ AK ?_);have D9:(p1:Int)<5:=by omega
  have PE:(0:Int)<=(p1:Int):=by omega
  have IT:(p2:Int)<5:=by omega
  have NO:(0:Int)<=(p2:Int):=by omega
  have OT:Hid (∀V,Below w0.heap.size w0 V->(∀(j:Nat) (v:Value),(endC (endL f))[j]?=some v->V.cell? ⟨ge,j,none⟩=some v)->(V.cell? ⟨w.heap.size,1,none⟩=some (.int .i64 xk)/\V.cell? ⟨w.heap.size,2,none⟩=some (.int .i64 xt)/\V.cell? ⟨w.heap.size,5,none⟩=some (.int .u64 xx))/\(V.cell? ⟨ge,p1*2,none⟩=some (.int .u32 (tkE f p1:Int))/\V.cell? ⟨ge,p1*2+1,none⟩=some (.int .i64 (atE f p1:Int)))/\V.cell? ⟨ge,p2*2,none⟩=some (.int .u32 (tkE f p2:Int))/\V.cell? ⟨ge,p2*2+1,none⟩=some (.int .i64 (atE f p2:Int))):=fun V hV he=>by
   have hx:=Ik.out V hV;have e1:=Q3U f A3;have e2:=Q3U f Az;rw[J6b 2 p1] at e1;rw[J6b 2 p2] at e2;exact⟨⟨hx.cell 1 _ (by rw[HC.out];rfl),hx.cell 2 _ (by rw[HC.out];rfl),hx.cell 5 _ (by rw[HC.out];rfl)⟩,⟨he _ _ e1.1,he _ _ e1.2⟩,he _ _ e2.1,he _ _ e2.2⟩
  have P4:Hid (∀V,Below w6.heap.size w6 V->(V.cell? ⟨w.heap.size,1,none⟩=some (.int .i64 xk)/\V.cell? ⟨w.heap.size,2,none⟩=some (.int .i64 xt)/\V.cell? ⟨w.heap.size,5,none⟩=some (.int .u64 xx))/\(V.cell? ⟨ge,p1*2,none⟩=some (.int .u32 (tkE f p1:Int))/\V.cell? ⟨ge,p1*2+1,none⟩=some (.int .i64 (atE f p1:Int)))/\V.cell? ⟨ge,p2*2,none⟩=some (.int .u32 (tkE f p2:Int))/\V.cell? ⟨ge,p2*2+1,none⟩=some (.int .i64 (atE f p2:Int))):=fun V hV=>OT.out V (MT.out.grown hV).below (MT.out.grown hV).end_
  have Sk:Hid (∀V,Below w6.heap.size w6 V->Calls prog 54 #[.pointer (some ⟨c,0,none⟩),.agg #[.int .u32 (tkE f p1:Int),.int .i64 (atE f p1:Int)],.agg #[.int .u32 (tkE f p2:Int),.int .i64 (atE f p2:Int)],.int .u64 xx] V fun r w'=>∃er:Int,r=.returned (.int .i64 er)/\((w'.cell? ⟨w.heap.size,1,none⟩=some (.int .i64 xk)/\w'.cell? ⟨w.heap.size,2,none⟩=some (.int .i64 xt)/\w'.cell? ⟨w.heap.size,5,none⟩=some (.int .u64 xx))/\(w'.cell? ⟨ge,p1*2,none⟩=some (.int .u32 (tkE f p1:Int))/\w'.cell? ⟨ge,p1*2+1,none⟩=some (.int .i64 (atE f p1:Int)))/\w'.cell? ⟨ge,p2*2,none⟩=some (.int .u32 (tkE f p2:Int))/\w'.cell? ⟨ge,p2*2+1,none⟩=some (.int .i64 (atE f p2:Int)))/\CfT Z fr (8+i) 0 (2+256*(i:Int)) Z.S.P.a.mem g (obL Z.S.l) oa F fa c k ge f w0 er w'):=fun V hV=>by
   refine(Z9W C7.out HJ.out.nz IW.out (MT.out.grown hV) (by omega) (by have:=Z2m f A3;omega) (by have:=Z2m f Az;omega) (Pr.out _ A3) (Pr.out _ Az) Wp.out).mono ?_;rintro r w'⟨er,rfl,T⟩;refine⟨er,rfl,?_,T⟩;rcases T with ⟨_,h1,h2⟩|⟨_,Z',_,_,_,_,h1⟩
   ·exact OT.out w' h1 h2
   ·exact OT.out w' h1.below h1.end_
  have Cq:Hid (Below w6.heap.size w6 w6.drew):=(Below.refl _ _).drew;have GA:Hid (Below w6.heap.size w6 w6):=Below.refl _ _;clear OT AK;generalize tkE f p1=t1 at *
  generalize tkE f p2=t2 at *
  generalize atE f p1=a1 at *
  generalize atE f p2=a2 at *
  go_cut [15] from 79 to 94 (fun e wc=>∃er:Int,e=.int .i64 er/\CfT Z fr (8+i) 0 (2+256*(i:Int)) Z.S.P.a.mem g (obL Z.S.l) oa F fa c k ge f w0 er wc)
  case first =>
   clear Ik PY PB N3 C7 HJ IW Pr MT HF HO Oq O2 HC Lv
   go_region_held3 (fun V=>(V.cell? ⟨w.heap.size,1,none⟩=some (.int .i64 xk)/\V.cell? ⟨w.heap.size,2,none⟩=some (.int .i64 xt)/\V.cell? ⟨w.heap.size,5,none⟩=some (.int .u64 xx))/\(V.cell? ⟨ge,p1*2,none⟩=some (.int .u32 t1)/\V.cell? ⟨ge,p1*2+1,none⟩=some (.int .i64 a1))/\V.cell? ⟨ge,p2*2,none⟩=some (.int .u32 t2)/\V.cell? ⟨ge,p2*2+1,none⟩=some (.int .i64 a2))
    (first|exact Hb.out|exact P4.out _ Cq.out|exact P4.out _ GA.out)
    (first|(go_at_call 56;(first|refine(LG.out _).mono ?_|refine(FP.out _).mono ?_);rintro rv w'⟨rfl,rfl⟩)|(go_at_call 54;refine(Sk.out _ Cq.out).mono ?_;rintro rv w'⟨er,rfl,hS,hQ⟩;have Hb:=Q0a hS;have HR:=Q0a hQ;clear hS hQ))
   all_goals (go_wp2_with fail;go_meet;exact⟨er,rfl,HR.out⟩)
  obtain⟨er,rfl,hT⟩:=hcut;obtain⟨wy,Wl⟩:∃wy:World,wy=wc:=⟨_,rfl⟩
  subst Wl;have RS:Below w0.heap.size w0 wy:=by
   rcases hT with ⟨_,h1,_⟩|⟨_,Z',_,_,_,_,h1⟩
   ·exact h1
   ·exact h1.below
  have OI:=Q0a RS;have HT:Hid (er≠0->∃Z',Z'.Ok fr (8+i) 0 (2+256*(i:Int))/\AlikeZ Z Z'/\Z'.S.l=Z.S.l/\SameB Z Z'.S.P.a.mem/\CfS Z' Z.S.P.a.mem g (obL Z.S.l) oa F fa c k ge f w0 wy):=fun h=>by
   rcases hT with ⟨h1,_⟩|⟨_,h1⟩
   ·exact absurd h1 h
   ·exact h1
  have ER:wy.cell? ⟨w.heap.size,0,none⟩=some (.int .i64 kind):=(Ik.out wy RS).cell 0 _ (by rw[HC.out];rfl);obtain⟨km,Qm⟩:∃km:Int,Int.tmod kind 2=km:=⟨_,rfl⟩
  have Cf:-2<km/\km<2:=by
   rw[<- Qm,Int.tmod_eq_emod];split <;> simp <;> omega
  obtain⟨NK,Nr⟩:=Cf;have SD:IntKind.i64.wrap km=km:=Go.IntWalk.i64_in _ (by omega);clear hT RS Cq GA P4 Sk MT FP IT NO Az;by_cases A5:km=1
  ·subst A5;by_cases h0:er=0
   ·subst h0;have HR:Hid (Told w (.bool true) (.returned (.bool true)) wy):=⟨rfl,Cj.out.trans (OI.out.mono Cj.out.size)⟩
    clear HT Ik;go_wp2_with fail
    (try go_ret);exact HR.out
   ·have Cu:(er==0)=false:=by simp[h0]
    obtain⟨Z1,k1,k2,k3,k4,k5⟩:=HT.out h0;obtain⟨q3,JF⟩:∃q3:Nat,q3=p1%3:=⟨_,rfl⟩
    have UO:q3<3:=by omega
    have e3:Int.tmod (p1:Int) 3=(q3:Int):=by rw[J4S (by omega)];omega
    obtain⟨tk,AU⟩:∃tk:Nat,tk=1+q3:=⟨_,rfl⟩
    have wtk:IntKind.u32.wrap (IntKind.i64.wrap (1+(q3:Int)))=(tk:Int):=by rw[Go.IntWalk.i64_in _ (by omega),Go.IntWalk.u32_in _ (by omega)];omega
    have Wy:(0:Int)<=(q3:Int):=by omega
    have VL:(q3:Int)<3:=by omega
    have Ld:Hid (∀V,Below w0.heap.size w0 V->V.cell? ⟨w.heap.size,1,none⟩=some (.int .i64 xk)/\V.cell? ⟨w.heap.size,3,none⟩=some (.int .i64 xs)/\V.cell? ⟨w.heap.size,4,none⟩=some (.int .i64 xo)/\V.cell? ⟨w.heap.size,6,none⟩=some (.slice la nL lcp)):=fun V hV=>by
     have hx:=Ik.out V hV;exact⟨hx.cell 1 _ (by rw[HC.out];rfl),hx.cell 3 _ (by rw[HC.out];rfl),hx.cell 4 _ (by rw[HC.out];rfl),hx.cell 6 _ (by rw[HC.out,Lv.out];rfl)⟩
    have IR:Hid (∀V,Below wy.heap.size wy V->V.cell? ⟨w.heap.size,1,none⟩=some (.int .i64 xk)/\V.cell? ⟨w.heap.size,3,none⟩=some (.int .i64 xs)/\V.cell? ⟨w.heap.size,4,none⟩=some (.int .i64 xo)/\V.cell? ⟨w.heap.size,6,none⟩=some (.slice la nL lcp)):=fun V hV=>Ld.out V (OI.out.trans (hV.mono OI.out.size))
    have CH:Hid (∀V,Below wy.heap.size wy V->Calls prog 45 #[.pointer (some ⟨c,0,none⟩),.int .u32 (IntKind.u32.wrap (IntKind.i64.wrap (1+(q3:Int)))),.int .i64 xs,.int .i64 xo,.slice la nL lcp] V fun r w'=>∃er2:Int,r=.returned (.int .i64 er2)/\(w'.cell? ⟨w.heap.size,1,none⟩=some (.int .i64 xk)/\w'.cell? ⟨w.heap.size,3,none⟩=some (.int .i64 xs)/\w'.cell? ⟨w.heap.size,4,none⟩=some (.int .i64 xo)/\w'.cell? ⟨w.heap.size,6,none⟩=some (.slice la nL lcp))/\Below w0.heap.size w0 w'/\(er2≠0->CfS Z1 Z.S.P.a.mem g (obL Z.S.l) oa F fa c k ge f w0 w')):=fun V hV=>by
     rw[wtk,Lv.out];refine(Z9X k1 (k5.grown hV) (t:=tk) (by omega) xs xo N3.out lcp (PY.out.below Cj.out) PB.out (by rw[<- Lv.out];exact NF.out)).mono ?_;rintro r w'⟨er2,rfl,h1,h2⟩;have h3:=Ld.out w' h1;rw[Lv.out] at h3;exact⟨er2,rfl,h3,h1,h2⟩
    have Pn:Hid (∀V,CfS Z1 Z.S.P.a.mem g (obL Z.S.l) oa F fa c k ge f w0 V->∃Z',Z'.Ok fr (8+i) 0 (2+256*(i:Int))/\AlikeZ Z Z'/\Z'.S.l=Z.S.l/\SameB Z Z'.S.P.a.mem/\CfS Z' Z.S.P.a.mem g (obL Z.S.l) oa F fa c k ge f w0 V):=fun V h=>⟨Z1,k1,k2,k3,k4,h⟩
    have Cq:Hid (Below wy.heap.size wy wy.drew):=(Below.refl _ _).drew;have GA:Hid (Below wy.heap.size wy wy):=Below.refl _ _;clear k1 k2 k3 k4 k5 HT h0 JF AU wtk Ld;go_upto_region 20 with fail
    go_cut [15] from 101 to 114 (fun e wc=>∃er2:Int,e=.int .i64 er2/\Below w0.heap.size w0 wc/\(er2≠0->CfS Z1 Z.S.P.a.mem g (obL Z.S.l) oa F fa c k ge f w0 wc))
    case first =>
     clear Ik PY PB N3 C7 HJ IW Pr HF HO Oq O2 HC Pn ER
     go_region_held3 (fun V=>V.cell? ⟨w.heap.size,1,none⟩=some (.int .i64 xk)/\V.cell? ⟨w.heap.size,3,none⟩=some (.int .i64 xs)/\V.cell? ⟨w.heap.size,4,none⟩=some (.int .i64 xo)/\V.cell? ⟨w.heap.size,6,none⟩=some (.slice la nL lcp))
      (first|exact Hb.out|exact IR.out _ Cq.out|exact IR.out _ GA.out)
      (first|(go_at_call 56;refine(LG.out _).mono ?_;rintro rv w'⟨rfl,rfl⟩)|(go_at_call 45;refine(CH.out _ Cq.out).mono ?_;rintro rv w'⟨er2,rfl,hS,Nl,Og⟩;have Hb:=Q0a hS;have HR:=Q0a (And.intro Nl Og);clear hS Nl Og))
     all_goals (go_wp2_with fail;go_meet;exact⟨er2,rfl,HR.out⟩)
    obtain⟨er2,rfl,OG,Mh⟩:=hcut;obtain⟨wt,Rt⟩:∃wt:World,wt=wc:=⟨_,rfl⟩
    subst Rt;have Ni:=Q0a OG;have Kc:=Q0a Mh;clear OG Mh CH IR Cq GA Cu ER e3;by_cases h0:er2=0
    ·subst h0;have HR:Hid (Told w (.bool true) (.returned (.bool true)) wt):=⟨rfl,Cj.out.trans (Ni.out.mono Cj.out.size)⟩
     clear Kc Pn Ik;go_wp2_with fail
     (try go_ret);exact HR.out
    ·have Cu:(er2==0)=false:=by simp[h0]
     have HS:=Q0a (Pn.out wt (Kc.out h0));clear h0 Kc Pn Ni;obtain⟨Z',CL,AQ,Fi,DM,Gs⟩:=HS.out;have By:Z'.S.P.a.mem.length=65536:=by rw[CL.core.inv.mem.pool.mem,AQ.same.top,<- C7.out.core.inv.mem.pool.mem,IW.out]
     have ke:=J0t CL By AQ Gs HF.out C7.out fc;rw[AQ.same.p,Oq.out] at ke;have KE:=Q0a ke;have Lk:Hid (Below w0.heap.size w0 wt):=Gs.below;have Ia:=Q0a CL;have Np:=Q0a By;have IB:=Q0a Fi;have MK:=Q0a DM;clear ke CL AQ Fi DM Gs By HS;go_wp2_with fail;refine KE.out.1.mono ?_;rintro rv wa2⟨rfl,rfl⟩;go_wp2_with fail;refine KE.out.2.mono ?_;rintro rv w1'⟨g2,gc2,rfl,kB,kF⟩;have Nq:=Q0a kB;have Oe:=Q0a kF;clear kB kF KE;go_wp2_with fail;refine Nq.out.mono ?_;rintro rv wa2⟨rfl,rfl⟩;go_wp2_with fail;refine Oe.out.mono ?_;rintro rv w2'⟨fa2,fc2,rfl,NY⟩;have MR:=Q0a NY
     clear NY Nq Oe;go_wp2_with fail;refine MR.out.mono ?_;rintro rv w3'⟨rfl,kQ,kU⟩;have Nx:=Q0a kQ;have MG:=Q0a kU;clear kQ kU MR;go_wp2_with fail;refine Nx.out.mono ?_;rintro rv wa2⟨rfl,rfl⟩;go_wp2_with fail;refine MG.out.mono ?_;rintro rv wE⟨rfl,Da,hN⟩;have Cz:Hid (∀V,Below wE.heap.size wE V->∀q x:Nat,(obL Z.S.l)[q]?=some x->(∃go:Nat,oa=some ⟨go,0,none⟩/\V.cell? ⟨go,q,none⟩=some (.int .u32 x))/\(((obP Z.S.l x).kind=8∨1<=(obP Z.S.l x).kind/\(obP Z.S.l x).kind<=5)/\(obP Z.S.l x).at_+costK (obP Z.S.l x).kind<=65536)/\(obP Z.S.l x∈Z.S.l/\(obP Z.S.l x).is=true) /\
        (Calls prog 44 #[.pointer (some ⟨c,0,none⟩)] V fun r w'=>r=.returned (.pointer (some ⟨Z'.s,0,none⟩))/\V=w') /\
        (Calls prog 26 #[.pointer (some ⟨Z'.s,0,none⟩)] V fun r w'=>r=.returned (.pointer (some ⟨Z'.S.c,0,none⟩))/\V=w') /\
        Calls prog 30 #[.pointer (some ⟨Z'.S.c,0,none⟩),.int .u32 x] V (Told V (.tuple #[.agg #[.int .i64 ((obP Z.S.l x).kind:Int),.int .i64 ((obP Z.S.l x).at_:Int),.int .i64 ((obP Z.S.l x).fac:Int)],.bool true]))):=fun V hV q x hx=>by
      have h1:CfS Z' Z.S.P.a.mem g (obL Z'.S.l) oa F fa c k ge f w0 V:=by rw[IB.out];exact Da.grown hV
      have h2:=Z7B Ia.out Np.out h1 (i:=q) (x:=x) (by rw[IB.out];exact hx);rw[IB.out] at h2;exact h2
     have DY:Hid (∀V,Below wE.heap.size wE V->∀i x:Nat,Z.S.P.a.mem[i]?=some x->V.cell? ⟨g,i,none⟩=some (.int .u8 x)):=fun V hV i x hx=>((Da.grown hV).rd).at' hx
     have BV:Hid (∀V,Below wE.heap.size wE V->∀i x:Nat,Z'.S.P.a.mem[i]?=some x->V.cell? ⟨g2,i,none⟩=some (.int .u8 x)):=fun V hV i x hx=>(hN.step (Da.sep.grown hV)).at' hx
     have Cl:Hid (∀i,i<65536->∃x,Z.S.P.a.mem[i]?=some x):=fun i hi=>⟨_,J5s (by rw[IW.out];exact hi)⟩
     have Bz:Hid (∀V,Below wE.heap.size wE V->Told w (.bool true) (.returned (.bool true)) V):=fun V hV=>⟨rfl,Cj.out.trans (((Da.grown hV).below).mono Cj.out.size)⟩
     clear Da hN Nx MG Ia Np IB Lk;go_wp2_with fail
     go_loopg [18] nO (fun gk iv wr=>∃q:Nat,iv=.int .i64 q/\q+gk=nO/\Below wE.heap.size wE wr)
     case atStart=>exact⟨0,rfl,by omega,Below.refl _ _⟩
     case round =>
     obtain⟨q,rfl,Fp,hb⟩:=hrel;have Dq:=Q0a Fp;have CV:=Q0a hb;have Px:(nO:Int)<=512:=by have:=O2.out;omega
     by_cases Aa:q<nO
     case neg =>
      have IE:¬(q:Int)<(nO:Int):=by omega
      have HR:=Q0a (Bz.out wr hb);clear Fp hb Aa Cz DY BV Cl;go_wp2_with fail
      (try go_ret);exact HR.out
     case pos =>
     obtain⟨x,hx⟩:∃x,(obL Z.S.l)[q]?=some x:=⟨_,J5s (by rw[HO.out];exact Aa)⟩
     obtain⟨⟨go,Eu,ES⟩,⟨Bd,Bj⟩,⟨CI,FH⟩,_,_,_⟩:=Cz.out wr hb q x hx;have GN:Hid (∀V,Below wr.heap.size wr V->Calls prog 44 #[.pointer (some ⟨c,0,none⟩)] V fun r w'=>r=.returned (.pointer (some ⟨Z'.s,0,none⟩))/\V=w'):=fun V hV=>(Cz.out V (CV.out.trans (hV.mono CV.out.size)) q x hx).2.2.2.1
     have H0:Hid (∀V,Below wr.heap.size wr V->Calls prog 26 #[.pointer (some ⟨Z'.s,0,none⟩)] V fun r w'=>r=.returned (.pointer (some ⟨Z'.S.c,0,none⟩))/\V=w'):=fun V hV=>(Cz.out V (CV.out.trans (hV.mono CV.out.size)) q x hx).2.2.2.2.1
     have ET:Hid (∀V,Below wr.heap.size wr V->Calls prog 30 #[.pointer (some ⟨Z'.S.c,0,none⟩),.int .u32 x] V (Told V (.tuple #[.agg #[.int .i64 ((obP Z.S.l x).kind:Int),.int .i64 ((obP Z.S.l x).at_:Int),.int .i64 ((obP Z.S.l x).fac:Int)],.bool true]))):=fun V hV=>(Cz.out V (CV.out.trans (hV.mono CV.out.size)) q x hx).2.2.2.2.2
     have Ir:Hid (∀t,(obP Z.S.l x).at_<=t->t<(obP Z.S.l x).at_+costK (obP Z.S.l x).kind->Z'.S.P.a.mem[t]?=Z.S.P.a.mem[t]?):=fun t h1 h2=>MK.out _ CI FH t h1 h2
     have Ct:Hid (∀V,Below wr.heap.size wr V->V.cell? ⟨go,q,none⟩=some (.int .u32 x)):=fun V hV=>(hV.cell (World.block_lt_of_cell? _ _ ES)).trans ES
     subst Eu;generalize (obP Z.S.l x).kind=kd at *
     generalize (obP Z.S.l x).at_=ad at *
     generalize ((obP Z.S.l x).fac:Int)=fcv at *
     have OM:(q:Int)<(nO:Int):=by omega
     have Q6:(0:Int)<=(q:Int):=by omega
     have J4:=Q0a Aa;have NG:=Q0a Bd;have Nh:=Q0a Bj;clear Fp hb Aa hx CI FH ES Bd Bj Cz;go_upto_region 29 with fail
     go_cut [19,20] from 152 to 162 (fun oo ee wc=>∃B:Nat,oo=.pointer (some ⟨B,0,none⟩)/\ee=.bool true/\Below wr.heap.size wr wc/\wr.heap.size<=B/\Cells wc B 54 [.int .i64 kd,.int .i64 ad,.int .i64 fcv])
     case first =>
      have Bg:Hid (∀V,Below wr.heap.size wr V->∀o,Below wr.heap.size wr (V.alloc o)):=fun V hb o=>hb.alloc hb.size o
      have HD:Hid (Below wr.heap.size wr wr.drew):=(Below.refl _ _).drew;have F4:Hid (Below wr.heap.size wr wr):=Below.refl _ _;have K2:Hid (Calls prog 30 #[.pointer (some ⟨Z'.S.c,0,none⟩),.int .u32 x] (wr.alloc (.cells #[.int .i64 0,.int .i64 0,.int .i64 0] 54)).drew fun r w4=>r=.returned (.tuple #[.agg #[.int .i64 kd,.int .i64 ad,.int .i64 fcv],.bool true])/\Below wr.heap.size wr w4/\Cells w4 wr.heap.size 54 [.int .i64 0,.int .i64 0,.int .i64 0]):=
       (ET.out _ (Bg.out _ (Below.refl _ _).drew _)).mono fun r w4 h=>⟨h.1,((Bg.out _ (Below.refl _ _).drew _)).trans (h.2.mono (by simp)),(Cells.new wr 54 [.int .i64 0,.int .i64 0,.int .i64 0]).same (h.2.block _ (by simp))⟩
      clear DY BV Cl Bz Ir MK Ik C7 HJ HF HO IW
      go_region_held3 (fun V=>V.cell? ⟨go,q,none⟩=some (.int .u32 x))
       (first|exact Ct.out _ F4.out|exact Ct.out _ HD.out|exact Ct.out _ (Bg.out _ HD.out _)|exact Ct.out _ Ag.out|exact Ct.out _ (Bg.out _ Ag.out _)|exact Ct.out _ (Ag.out.setCell (by simp) _)|exact Ct.out _ ((Ag.out.setCell (by simp) _).setCell (by simp) _)|exact Ct.out _ (((Ag.out.setCell (by simp) _).setCell (by simp) _).setCell (by simp) _))
       (first|(go_at_call 44;refine(GN.out _ (by first|exact HD.out|exact Bg.out _ HD.out _)).mono ?_;rintro rv w'⟨rfl,rfl⟩)|(go_at_call 26;refine(H0.out _ (by first|exact HD.out|exact Bg.out _ HD.out _)).mono ?_;rintro rv w'⟨rfl,rfl⟩)|(go_at_call 30;refine K2.out.mono ?_;rintro rv w4⟨rfl,Av,Bf⟩;have Ag:=Q0a Av;have z0:=Bf.cell 0 _ rfl;have y0:=Bf.free 0;have z1:=Bf.cell 1 _ rfl;have y1:=Bf.free 1;have z2:=Bf.cell 2 _ rfl;have y2:=Bf.free 2;have F3:=Q0a Bf;clear Av Bf)|(go_at_call 30;refine(ET.out _ (by first|exact HD.out|exact Bg.out _ HD.out _)).mono ?_;rintro rv w4⟨rfl,Av⟩;have Ag:=Q0a (HD.out.trans (Av.mono HD.out.size));clear Av))
      all_goals (go_wp2_with fail;go_meet;first|exact⟨_,rfl,rfl,Bg.out _ Ag.out _,Ag.out.size,Cells.new _ 54 [.int .i64 kd,.int .i64 ad,.int .i64 fcv]⟩|exact⟨_,rfl,rfl,(((Ag.out.setCell (by simp) _).setCell (by simp) _).setCell (by simp) _),J3h _,(((F3.out.set 0 (.int .i64 kd)).set 1 (.int .i64 ad)).set 2 (.int .i64 fcv))⟩)
     obtain⟨B2,rfl,rfl,Av,E6,Bf⟩:=hcut;obtain⟨wo,Kv⟩:∃wo:World,wo=wc:=⟨_,rfl⟩
     subst Kv;obtain⟨gko,KG⟩:∃g,g=gk:=⟨_,rfl⟩
     subst KG;have I9:=Q0a (CV.out.trans (Av.mono CV.out.size));have F3:=Q0a Bf;have z0:=Bf.cell 0 _ rfl;have z1:=Bf.cell 1 _ rfl;have Hv:=Q0a (Q9Y wo NG.out);have GZ:=Z2p NG.out;have Bj:=Nh.out;generalize costK kd=cn at *
     have i1:(ad:Int)+(cn:Int)<=65536:=by omega
     have i2:(0:Int)<=(ad:Int):=by omega
     have i3:(0:Int)<=(cn:Int):=by omega
     have i4:(cn:Int)<=1024:=by omega
     have i5:decide ((ad:Int)<0)=false:=decide_eq_false (by omega);have i6:decide ((65536:Int)-(cn:Int)<(ad:Int))=false:=decide_eq_false (by omega);clear Av E6 Bf GN H0 ET Ct GZ Bj CV;go_wp2_with fail;refine Hv.out.mono ?_;rintro rv wa2⟨rfl,rfl⟩;go_wp2_with fail;clear z0 z1 i5 i6
     go_loopg [22] cn (fun gk iv wr=>∃t:Nat,iv=.int .i64 ((ad:Int)+(t:Int))/\t+gk=cn/\Below wo.heap.size wo wr)
     case atStart=>exact⟨0,by simp,by omega,Below.refl _ _⟩
     case round =>
     obtain⟨t,rfl,K3,hb⟩:=hrel;have M9:=Q0a K3;have Lk:=Q0a hb;have z1:wr.cell? ⟨B2,1,none⟩=some (.int .i64 ad):=(F3.out.same (hb.block _ F3.out.lt)).cell 1 _ rfl;by_cases Aa:t<cn
     case neg =>
      obtain rfl:t=cn:=by omega
      have Ku:=Q0a (I9.out.trans (hb.mono I9.out.size));clear K3 hb Aa DY BV Cl Ir;go_wp2_with fail;go_roundg (nO-(q+1))
      case measure=>have:=Dq.out;have:=J4.out;omega
      case rel=>exact⟨q+1,by go_num,by have:=Dq.out;have:=J4.out;omega,Ku.out⟩
     case pos =>
     have KX:=I9.out.trans (hb.mono I9.out.size);have E4:ad+t<65536:=by have:=Nh.out;omega
     obtain⟨y,hy⟩:=Cl.out (ad+t) E4;have x1:=DY.out wr KX (ad+t) y hy;have KY:=Ir.out (ad+t) (by omega) (by omega);rw[hy] at KY;have y1:=BV.out wr KX (ad+t) y KY;have ei:((ad+t:Nat):Int)=(ad:Int)+(t:Int):=by omega
     have ti:(t:Int)<(cn:Int):=by omega
     have ti0:(0:Int)<=(t:Int):=by omega
     have tn:((ad:Int)+(t:Int)).toNat=ad+t:=by omega
     have Hk:=Q0a Aa;clear hy KY KX K3 hb Aa E4;go_wp2_with fail
     go_quiet (fail)
     go_wp2_with fail;go_roundg (cn-(t+1))
     case measure=>have:=M9.out;have:=Hk.out;omega
     case rel=>exact⟨t+1,by go_num,by have:=M9.out;have:=Hk.out;omega,Q0D Lk.out _⟩
  ·have Do:(km==1)=false:=by simp[A5]
   by_cases h0:er=0
   ·subst h0;have HR:Hid (Told w (.bool true) (.returned (.bool true)) wy):=⟨rfl,Cj.out.trans (OI.out.mono Cj.out.size)⟩
    clear HT Ik A5;go_wp2_with fail
    (try go_ret);exact HR.out
   ·have Cu:(er==0)=false:=by simp[h0]
    have HS:=Q0a (HT.out h0);obtain⟨wt,Rt⟩:∃wt:World,wt=wy:=⟨_,rfl⟩
    subst Rt;clear HT h0 A5;obtain⟨Z',CL,AQ,Fi,DM,Gs⟩:=HS.out;have By:Z'.S.P.a.mem.length=65536:=by rw[CL.core.inv.mem.pool.mem,AQ.same.top,<- C7.out.core.inv.mem.pool.mem,IW.out]
    have ke:=J0t CL By AQ Gs HF.out C7.out fc;rw[AQ.same.p,Oq.out] at ke;have KE:=Q0a ke;have Lk:Hid (Below w0.heap.size w0 wt):=Gs.below;have Ia:=Q0a CL;have Np:=Q0a By;have IB:=Q0a Fi;have MK:=Q0a DM;clear ke CL AQ Fi DM Gs By HS;go_wp2_with fail;refine KE.out.1.mono ?_;rintro rv wa2⟨rfl,rfl⟩;go_wp2_with fail;refine KE.out.2.mono ?_;rintro rv w1'⟨g2,gc2,rfl,kB,kF⟩;have Nq:=Q0a kB;have Oe:=Q0a kF;clear kB kF KE;go_wp2_with fail;refine Nq.out.mono ?_;rintro rv wa2⟨rfl,rfl⟩;go_wp2_with fail;refine Oe.out.mono ?_;rintro rv w2'⟨fa2,fc2,rfl,NY⟩;have MR:=Q0a NY
    clear NY Nq Oe;go_wp2_with fail;refine MR.out.mono ?_;rintro rv w3'⟨rfl,kQ,kU⟩;have Nx:=Q0a kQ;have MG:=Q0a kU;clear kQ kU MR;go_wp2_with fail;refine Nx.out.mono ?_;rintro rv wa2⟨rfl,rfl⟩;go_wp2_with fail;refine MG.out.mono ?_;rintro rv wE⟨rfl,Da,hN⟩;have Cz:Hid (∀V,Below wE.heap.size wE V->∀q x:Nat,(obL Z.S.l)[q]?=some x->(∃go:Nat,oa=some ⟨go,0,none⟩/\V.cell? ⟨go,q,none⟩=some (.int .u32 x))/\(((obP Z.S.l x).kind=8∨1<=(obP Z.S.l x).kind/\(obP Z.S.l x).kind<=5)/\(obP Z.S.l x).at_+costK (obP Z.S.l x).kind<=65536)/\(obP Z.S.l x∈Z.S.l/\(obP Z.S.l x).is=true) /\
       (Calls prog 44 #[.pointer (some ⟨c,0,none⟩)] V fun r w'=>r=.returned (.pointer (some ⟨Z'.s,0,none⟩))/\V=w') /\
       (Calls prog 26 #[.pointer (some ⟨Z'.s,0,none⟩)] V fun r w'=>r=.returned (.pointer (some ⟨Z'.S.c,0,none⟩))/\V=w') /\
       Calls prog 30 #[.pointer (some ⟨Z'.S.c,0,none⟩),.int .u32 x] V (Told V (.tuple #[.agg #[.int .i64 ((obP Z.S.l x).kind:Int),.int .i64 ((obP Z.S.l x).at_:Int),.int .i64 ((obP Z.S.l x).fac:Int)],.bool true]))):=fun V hV q x hx=>by
     have h1:CfS Z' Z.S.P.a.mem g (obL Z'.S.l) oa F fa c k ge f w0 V:=by rw[IB.out];exact Da.grown hV
     have h2:=Z7B Ia.out Np.out h1 (i:=q) (x:=x) (by rw[IB.out];exact hx);rw[IB.out] at h2;exact h2
    have DY:Hid (∀V,Below wE.heap.size wE V->∀i x:Nat,Z.S.P.a.mem[i]?=some x->V.cell? ⟨g,i,none⟩=some (.int .u8 x)):=fun V hV i x hx=>((Da.grown hV).rd).at' hx
    have BV:Hid (∀V,Below wE.heap.size wE V->∀i x:Nat,Z'.S.P.a.mem[i]?=some x->V.cell? ⟨g2,i,none⟩=some (.int .u8 x)):=fun V hV i x hx=>(hN.step (Da.sep.grown hV)).at' hx
    have Cl:Hid (∀i,i<65536->∃x,Z.S.P.a.mem[i]?=some x):=fun i hi=>⟨_,J5s (by rw[IW.out];exact hi)⟩
    have Bz:Hid (∀V,Below wE.heap.size wE V->Told w (.bool true) (.returned (.bool true)) V):=fun V hV=>⟨rfl,Cj.out.trans (((Da.grown hV).below).mono Cj.out.size)⟩
    clear Da hN Nx MG Ia Np IB Lk;go_wp2_with fail
    go_loopg [18] nO (fun gk iv wr=>∃q:Nat,iv=.int .i64 q/\q+gk=nO/\Below wE.heap.size wE wr)
    case atStart=>exact⟨0,rfl,by omega,Below.refl _ _⟩
    case round =>
    obtain⟨q,rfl,Fp,hb⟩:=hrel;have Dq:=Q0a Fp;have CV:=Q0a hb;have Px:(nO:Int)<=512:=by have:=O2.out;omega
    by_cases Aa:q<nO
    case neg =>
     have IE:¬(q:Int)<(nO:Int):=by omega
     have HR:=Q0a (Bz.out wr hb);clear Fp hb Aa Cz DY BV Cl;go_wp2_with fail
     (try go_ret);exact HR.out
    case pos =>
    obtain⟨x,hx⟩:∃x,(obL Z.S.l)[q]?=some x:=⟨_,J5s (by rw[HO.out];exact Aa)⟩
    obtain⟨⟨go,Eu,ES⟩,⟨Bd,Bj⟩,⟨CI,FH⟩,_,_,_⟩:=Cz.out wr hb q x hx;have GN:Hid (∀V,Below wr.heap.size wr V->Calls prog 44 #[.pointer (some ⟨c,0,none⟩)] V fun r w'=>r=.returned (.pointer (some ⟨Z'.s,0,none⟩))/\V=w'):=fun V hV=>(Cz.out V (CV.out.trans (hV.mono CV.out.size)) q x hx).2.2.2.1
    have H0:Hid (∀V,Below wr.heap.size wr V->Calls prog 26 #[.pointer (some ⟨Z'.s,0,none⟩)] V fun r w'=>r=.returned (.pointer (some ⟨Z'.S.c,0,none⟩))/\V=w'):=fun V hV=>(Cz.out V (CV.out.trans (hV.mono CV.out.size)) q x hx).2.2.2.2.1
    have ET:Hid (∀V,Below wr.heap.size wr V->Calls prog 30 #[.pointer (some ⟨Z'.S.c,0,none⟩),.int .u32 x] V (Told V (.tuple #[.agg #[.int .i64 ((obP Z.S.l x).kind:Int),.int .i64 ((obP Z.S.l x).at_:Int),.int .i64 ((obP Z.S.l x).fac:Int)],.bool true]))):=fun V hV=>(Cz.out V (CV.out.trans (hV.mono CV.out.size)) q x hx).2.2.2.2.2
    have Ir:Hid (∀t,(obP Z.S.l x).at_<=t->t<(obP Z.S.l x).at_+costK (obP Z.S.l x).kind->Z'.S.P.a.mem[t]?=Z.S.P.a.mem[t]?):=fun t h1 h2=>MK.out _ CI FH t h1 h2
    have Ct:Hid (∀V,Below wr.heap.size wr V->V.cell? ⟨go,q,none⟩=some (.int .u32 x)):=fun V hV=>(hV.cell (World.block_lt_of_cell? _ _ ES)).trans ES
    subst Eu;generalize (obP Z.S.l x).kind=kd at *
    generalize (obP Z.S.l x).at_=ad at *
    generalize ((obP Z.S.l x).fac:Int)=fcv at *
    have OM:(q:Int)<(nO:Int):=by omega
    have Q6:(0:Int)<=(q:Int):=by omega
    have J4:=Q0a Aa;have NG:=Q0a Bd;have Nh:=Q0a Bj;clear Fp hb Aa hx CI FH ES Bd Bj Cz;go_upto_region 29 with fail
    go_cut [19,20] from 152 to 162 (fun oo ee wc=>∃B:Nat,oo=.pointer (some ⟨B,0,none⟩)/\ee=.bool true/\Below wr.heap.size wr wc/\wr.heap.size<=B/\Cells wc B 54 [.int .i64 kd,.int .i64 ad,.int .i64 fcv])
    case first =>
     have Bg:Hid (∀V,Below wr.heap.size wr V->∀o,Below wr.heap.size wr (V.alloc o)):=fun V hb o=>hb.alloc hb.size o
     have HD:Hid (Below wr.heap.size wr wr.drew):=(Below.refl _ _).drew;have F4:Hid (Below wr.heap.size wr wr):=Below.refl _ _;have K2:Hid (Calls prog 30 #[.pointer (some ⟨Z'.S.c,0,none⟩),.int .u32 x] (wr.alloc (.cells #[.int .i64 0,.int .i64 0,.int .i64 0] 54)).drew fun r w4=>r=.returned (.tuple #[.agg #[.int .i64 kd,.int .i64 ad,.int .i64 fcv],.bool true])/\Below wr.heap.size wr w4/\Cells w4 wr.heap.size 54 [.int .i64 0,.int .i64 0,.int .i64 0]):=
      (ET.out _ (Bg.out _ (Below.refl _ _).drew _)).mono fun r w4 h=>⟨h.1,((Bg.out _ (Below.refl _ _).drew _)).trans (h.2.mono (by simp)),(Cells.new wr 54 [.int .i64 0,.int .i64 0,.int .i64 0]).same (h.2.block _ (by simp))⟩
     clear DY BV Cl Bz Ir MK Ik C7 HJ HF HO IW
     go_region_held3 (fun V=>V.cell? ⟨go,q,none⟩=some (.int .u32 x))
      (first|exact Ct.out _ F4.out|exact Ct.out _ HD.out|exact Ct.out _ (Bg.out _ HD.out _)|exact Ct.out _ Ag.out|exact Ct.out _ (Bg.out _ Ag.out _)|exact Ct.out _ (Ag.out.setCell (by simp) _)|exact Ct.out _ ((Ag.out.setCell (by simp) _).setCell (by simp) _)|exact Ct.out _ (((Ag.out.setCell (by simp) _).setCell (by simp) _).setCell (by simp) _))
      (first|(go_at_call 44;refine(GN.out _ (by first|exact HD.out|exact Bg.out _ HD.out _)).mono ?_;rintro rv w'⟨rfl,rfl⟩)|(go_at_call 26;refine(H0.out _ (by first|exact HD.out|exact Bg.out _ HD.out _)).mono ?_;rintro rv w'⟨rfl,rfl⟩)|(go_at_call 30;refine K2.out.mono ?_;rintro rv w4⟨rfl,Av,Bf⟩;have Ag:=Q0a Av;have z0:=Bf.cell 0 _ rfl;have y0:=Bf.free 0;have z1:=Bf.cell 1 _ rfl;have y1:=Bf.free 1;have z2:=Bf.cell 2 _ rfl;have y2:=Bf.free 2;have F3:=Q0a Bf;clear Av Bf)|(go_at_call 30;refine(ET.out _ (by first|exact HD.out|exact Bg.out _ HD.out _)).mono ?_;rintro rv w4⟨rfl,Av⟩;have Ag:=Q0a (HD.out.trans (Av.mono HD.out.size));clear Av))
     all_goals (go_wp2_with fail;go_meet;first|exact⟨_,rfl,rfl,Bg.out _ Ag.out _,Ag.out.size,Cells.new _ 54 [.int .i64 kd,.int .i64 ad,.int .i64 fcv]⟩|exact⟨_,rfl,rfl,(((Ag.out.setCell (by simp) _).setCell (by simp) _).setCell (by simp) _),J3h _,(((F3.out.set 0 (.int .i64 kd)).set 1 (.int .i64 ad)).set 2 (.int .i64 fcv))⟩)
    obtain⟨B2,rfl,rfl,Av,E6,Bf⟩:=hcut;obtain⟨wo,Kv⟩:∃wo:World,wo=wc:=⟨_,rfl⟩
    subst Kv;obtain⟨gko,KG⟩:∃g,g=gk:=⟨_,rfl⟩
    subst KG;have I9:=Q0a (CV.out.trans (Av.mono CV.out.size));have F3:=Q0a Bf;have z0:=Bf.cell 0 _ rfl;have z1:=Bf.cell 1 _ rfl;have Hv:=Q0a (Q9Y wo NG.out);have GZ:=Z2p NG.out;have Bj:=Nh.out;generalize costK kd=cn at *
    have i1:(ad:Int)+(cn:Int)<=65536:=by omega
    have i2:(0:Int)<=(ad:Int):=by omega
    have i3:(0:Int)<=(cn:Int):=by omega
    have i4:(cn:Int)<=1024:=by omega
    have i5:decide ((ad:Int)<0)=false:=decide_eq_false (by omega);have i6:decide ((65536:Int)-(cn:Int)<(ad:Int))=false:=decide_eq_false (by omega);clear Av E6 Bf GN H0 ET Ct GZ Bj CV;go_wp2_with fail;refine Hv.out.mono ?_;rintro rv wa2⟨rfl,rfl⟩;go_wp2_with fail;clear z0 z1 i5 i6
    go_loopg [22] cn (fun gk iv wr=>∃t:Nat,iv=.int .i64 ((ad:Int)+(t:Int))/\t+gk=cn/\Below wo.heap.size wo wr)
    case atStart=>exact⟨0,by simp,by omega,Below.refl _ _⟩
    case round =>
    obtain⟨t,rfl,K3,hb⟩:=hrel;have M9:=Q0a K3;have Lk:=Q0a hb;have z1:wr.cell? ⟨B2,1,none⟩=some (.int .i64 ad):=(F3.out.same (hb.block _ F3.out.lt)).cell 1 _ rfl;by_cases Aa:t<cn
    case neg =>
     obtain rfl:t=cn:=by omega
     have Ku:=Q0a (I9.out.trans (hb.mono I9.out.size));clear K3 hb Aa DY BV Cl Ir;go_wp2_with fail;go_roundg (nO-(q+1))
     case measure=>have:=Dq.out;have:=J4.out;omega
     case rel=>exact⟨q+1,by go_num,by have:=Dq.out;have:=J4.out;omega,Ku.out⟩
    case pos =>
    have KX:=I9.out.trans (hb.mono I9.out.size);have E4:ad+t<65536:=by have:=Nh.out;omega
    obtain⟨y,hy⟩:=Cl.out (ad+t) E4;have x1:=DY.out wr KX (ad+t) y hy;have KY:=Ir.out (ad+t) (by omega) (by omega);rw[hy] at KY;have y1:=BV.out wr KX (ad+t) y KY;have ei:((ad+t:Nat):Int)=(ad:Int)+(t:Int):=by omega
    have ti:(t:Int)<(cn:Int):=by omega
    have ti0:(0:Int)<=(t:Int):=by omega
    have tn:((ad:Int)+(t:Int)).toNat=ad+t:=by omega
    have Hk:=Q0a Aa;clear hy KY KX K3 hb Aa E4;go_wp2_with fail
    go_quiet (fail)
    go_wp2_with fail;go_roundg (cn-(t+1))
    case measure=>have:=M9.out;have:=Hk.out;omega
    case rel=>exact⟨t+1,by go_num,by have:=M9.out;have:=Hk.out;omega,Q0D Lk.out _⟩
end Go.Proofs.YtfidemmgofcnmaaGreatDoor
