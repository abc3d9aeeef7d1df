/- What the laws of spaces share is proved. No condition. Part of a proof. -/
import Derived.Test.YtfidemmgofcnmaaGreatDoorAt29
import Derived.Lib.LaidTab
import Derived.LaidMore
import Derived.MakeChecks
import Derived.Stop.LaidErr
set_option maxHeartbeats 8000000
set_option maxRecDepth 100000
set_option linter.unusedVariables false
namespace Go.Proofs.YtfidemmgofcnmaaGreatDoor
open Go.RowKit Go.Proofs.Tryz
def tkE(f:Nat->Nat×Nat)(i:Nat):Nat:=((endL f).getD i (0,0)).1
def atE(f:Nat->Nat×Nat)(i:Nat):Nat:=((endL f).getD i (0,0)).2
theorem Z8V(f:Nat->Nat×Nat){i:Nat}(hi:i<5):tkE f i<=2:=by
 have:i=0∨i=1∨i=2∨i=3∨i=4:=by omega
 rcases this with rfl|rfl|rfl|rfl|rfl
 ·exact(by decide:(1:Nat)<=2)
 ·exact J1E 2
 ·exact(by decide:(1:Nat)<=2)
 ·exact J3z 2
 ·exact(by decide:(1:Nat)<=2)
theorem Q4I(f:Nat->Nat×Nat){i:Nat}(hi:i<5):(endC (endL f))[2*i]?=some (.int .u32 (tkE f i:Int))/\(endC (endL f))[2*i+1]?=some (.int .i64 (atE f i:Int)):=by
 have:i=0∨i=1∨i=2∨i=3∨i=4:=by omega
 rcases this with rfl|rfl|rfl|rfl|rfl <;> exact⟨rfl,rfl⟩
section
variable {c k ge:Nat} {f:Nat->Nat×Nat} {N K:Nat} {M:Int} {w0 wr w':World}
theorem CaT.atE_lt(h:CaT c k ge f N K M w0 wr){i:Nat}(hi:i<5):atE f i<=65536:=by
 have hl:=h.low;have:i=0∨i=1∨i=2∨i=3∨i=4:=by omega
 rcases this with rfl|rfl|rfl|rfl|rfl
 ·show(f 2).1<=_;omega
 ·show(f 3).1<=_;omega
 ·show(f 4).1<=_;omega
 ·show(f 2).1<=_;omega
 ·show(f 2).1+8<=_;omega
end
theorem Z3c{c k ge cap:Nat}{f:Nat->Nat×Nat}{N K:Nat}{M:Int}{w0 w:World}(h:CaT c k ge f N K M w0 w)(hN:N+1<1048576)(hM:M+300<1099511627776)(x:A19)(hx:x.Wf)(hl:A19.Lies w0 x)(hf:few1 x) :
  Calls prog 48 #[.pointer (some ⟨c,0,none⟩),.slice (some ⟨ge,0,none⟩) 5 cap,.agg x.cells.toArray] w fun r w'=>r=.returned (.tuple #[])/\CaT c k ge f (N+1) K (M+256) w0 w':=by
 have HT:=Q0a h;obtain⟨gk,g1,g2,gs,go,gx,glc,glb,gwc,gic,gwin,ga,gL,gW,gI⟩:=hx;obtain⟨kind,xk,xt,xs,xo,xx,la,lcp,L,lb,wa,wcp,W,ia,icp,I,⟨vb,vo⟩,⟨akind,an,ak,am,at_,au,as_,ar,aself,ala,all,alc,aL,⟨ib,io,ir,iff,ig⟩,⟨awb,awo⟩⟩⟩:=x;dsimp only at *
 have AQ:(A19.cells ⟨kind,xk,xt,xs,xo,xx,la,lcp,L,lb,wa,wcp,W,ia,icp,I,⟨vb,vo⟩,⟨akind,an,ak,am,at_,au,as_,ar,aself,ala,all,alc,aL,⟨ib,io,ir,iff,ig⟩,⟨awb,awo⟩⟩⟩).toArray=#[.int .i64 kind,.int .i64 xk,.int .i64 xt,.int .i64 xs,.int .i64 xo,.int .u64 xx,.slice la L.length lcp,.int .u64 lb,.slice wa W.length wcp,.slice ia I.length icp,.int .i64 vb,.int .i64 vo,.int .i64 akind,.int .i64 an,.int .i64 ak,.int .i64 am,.int .i64 at_,.int .i64 au,.int .i64 as_,.int .i64 ar,.bool aself,.slice ala all alc,.int .i64 ib,.int .i64 io,.int .i64 ir,.int .i64 iff,.bool ig,.int .i64 awb,.int .i64 awo]:=rfl;rw[AQ]
 clear AQ;have HK:=Q0a (⟨g1,g2⟩:I64 xk/\I64 xt);have A9:=Q3l xk;have Ax:=Q3l xt;obtain⟨p1,JW⟩:∃p,p=Q4m xk:=⟨_,rfl⟩
 obtain⟨p2,JF⟩:∃p,p=Q4m xt:=⟨_,rfl⟩
 rw[<- JW] at A9;rw[<- JF] at Ax;have Qa:Hid (∀W,Calls prog 56 #[.int .i64 xk] W fun r w'=>r=.returned (.int .i64 ((p1:Nat):Int))/\W=w'):=fun W=>by rw[JW];exact Q4n W xk HK.out.1
 have JN:Hid (∀W,Calls prog 56 #[.int .i64 xt] W fun r w'=>r=.returned (.int .i64 ((p2:Nat):Int))/\W=w'):=fun W=>by rw[JF];exact Q4n W xt HK.out.2
 clear JW JF;have Rd:Hid (∀V,Below w.heap.size w V->V.cell? ⟨ge,2*p1,none⟩=some (.int .u32 (tkE f p1:Int))/\V.cell? ⟨ge,2*p1+1,none⟩=some (.int .i64 (atE f p1:Int))/\V.cell? ⟨ge,2*p2,none⟩=some (.int .u32 (tkE f p2:Int))/\V.cell? ⟨ge,2*p2+1,none⟩=some (.int .i64 (atE f p2:Int))):=fun V hV=>by
  have hg:=HT.out.grown hV;exact⟨hg.cells _ _ (Q4I f A9).1,hg.cells _ _ (Q4I f A9).2,hg.cells _ _ (Q4I f Ax).1,hg.cells _ _ (Q4I f Ax).2⟩
 have Vf:Hid ((tkE f p1<4294967296/\tkE f p2<4294967296)/\atE f p1<=65536/\atE f p2<=65536):=⟨⟨by have:=Z8V f A9;omega,by have:=Z8V f Ax;omega⟩,HT.out.atE_lt A9,HT.out.atE_lt Ax⟩
 generalize tkE f p1=t1 at *
 generalize tkE f p2=t2 at *
 generalize atE f p1=a1 at *
 generalize atE f p2=a2 at *
 have DU:(p1:Int)<5:=by omega
 have N7:(p2:Int)<5:=by omega
 have U0:(0:Int)<=(p1:Int):=by omega
 have U7:(0:Int)<=(p2:Int):=by omega
 obtain⟨C,hC⟩:∃C:List Value,C=[.int .i64 kind,.int .i64 xk,.int .i64 xt,.int .i64 xs,.int .i64 xo,.int .u64 xx,.slice la L.length lcp,.int .u64 lb,.slice wa W.length wcp,.slice ia I.length icp,.int .i64 vb,.int .i64 vo,.int .i64 akind,.int .i64 an,.int .i64 ak,.int .i64 am,.int .i64 at_,.int .i64 au,.int .i64 as_,.int .i64 ar,.bool aself,.slice ala all alc,.int .i64 ib,.int .i64 io,.int .i64 ir,.int .i64 iff,.bool ig,.int .i64 awb,.int .i64 awo]:=⟨_,rfl⟩
 have KD:(w.alloc (.cells #[.int .i64 kind,.int .i64 xk,.int .i64 xt,.int .i64 xs,.int .i64 xo,.int .u64 xx,.slice la L.length lcp,.int .u64 lb,.slice wa W.length wcp,.slice ia I.length icp,.int .i64 vb,.int .i64 vo,.int .i64 akind,.int .i64 an,.int .i64 ak,.int .i64 am,.int .i64 at_,.int .i64 au,.int .i64 as_,.int .i64 ar,.bool aself,.slice ala all alc,.int .i64 ib,.int .i64 io,.int .i64 ir,.int .i64 iff,.bool ig,.int .i64 awb,.int .i64 awo] 102))=w.alloc (.cells C.toArray 102):=by rw[hC]
 have AZ:(w.alloc (.cells C.toArray 102)).heap.size=w.heap.size+1:=by simp
 have Ee:Hid (∀V,Below (w.alloc (.cells C.toArray 102)).heap.size (w.alloc (.cells C.toArray 102)) V->Below w.heap.size w V/\Cells V w.heap.size 102 C):=fun V hV=>⟨Q0b hV,(Cells.new w 102 C).same (hV.block _ (by simp))⟩
 have UH:=Q0a AZ;obtain⟨W1,Nk⟩:∃W1,W1=w.alloc (.cells C.toArray 102):=⟨_,rfl⟩
 rw[<- Nk] at KD Ee UH;have HC:=Q0a hC;have HS:Hid (∀V,Below W1.heap.size W1 V->(V.cell? ⟨w.heap.size,1,none⟩=some (.int .i64 xk)/\V.cell? ⟨w.heap.size,2,none⟩=some (.int .i64 xt))/\(V.cell? ⟨ge,p1*2,none⟩=some (.int .u32 t1)/\V.cell? ⟨ge,p1*2+1,none⟩=some (.int .i64 a1))/\V.cell? ⟨ge,p2*2,none⟩=some (.int .u32 t2)/\V.cell? ⟨ge,p2*2+1,none⟩=some (.int .i64 a2)):=fun V hV=>by
  obtain⟨hb,hc⟩:=Ee.out V hV;obtain⟨q1,q2,q3,q4⟩:=Rd.out V hb;rw[J4x p1 2,J4x p2 2];exact⟨⟨hc.cell 1 _ (by rw[HC.out];rfl),hc.cell 2 _ (by rw[HC.out];rfl)⟩,⟨q1,q2⟩,q3,q4⟩
 clear h hC Rd AZ Nk;go_enter func48,ntmps48;go_upto_region 1 with fail
 try rw[KD]
 clear KD
 go_cut [6,7] from 12 to 23 (fun a b wc=>∃B1 B2:Nat,a=.pointer (some ⟨B1,0,none⟩)/\b=.pointer (some ⟨B2,0,none⟩)/\Below W1.heap.size W1 wc/\(wc.cell? ⟨B1,0,none⟩=some (.int .u32 t1)/\wc.cell? ⟨B1,1,none⟩=some (.int .i64 a1))/\wc.cell? ⟨B2,0,none⟩=some (.int .u32 t2)/\wc.cell? ⟨B2,1,none⟩=some (.int .i64 a2))
 case first =>
  clear Ee HC HT
  go_region_held3 (fun V=>(V.cell? ⟨w.heap.size,1,none⟩=some (.int .i64 xk)/\V.cell? ⟨w.heap.size,2,none⟩=some (.int .i64 xt))/\(V.cell? ⟨ge,p1*2,none⟩=some (.int .u32 t1)/\V.cell? ⟨ge,p1*2+1,none⟩=some (.int .i64 a1))/\V.cell? ⟨ge,p2*2,none⟩=some (.int .u32 t2)/\V.cell? ⟨ge,p2*2+1,none⟩=some (.int .i64 a2))
   (first|(refine HS.out _ ?_;repeat' first|exact Below.refl _ _|refine Below.drew ?_|refine Below.alloc ?_ (by simp) _|refine Below.setCell ?_ (by simp) _))
   (first|(go_at_call 56;(first|refine(Qa.out _).mono ?_|refine(JN.out _).mono ?_);rintro rv w'⟨rfl,rfl⟩))
  all_goals (go_wp2_with fail;go_meet)
  all_goals
   refine⟨_,_,rfl,rfl,?_,⟨?_,?_⟩,?_,?_⟩
   ·repeat' first|exact Below.refl _ _|refine Below.drew ?_|refine Below.alloc ?_ (by simp) _|refine Below.setCell ?_ (by simp) _
   all_goals simp[go_sem]
 obtain⟨B1,B2,rfl,rfl,hb,KA,KF⟩:=hcut;obtain⟨wx,L1⟩:∃wx:World,wx=wc:=⟨_,rfl⟩
 subst L1;have J7:B1<wx.heap.size:=World.block_lt_of_cell? _ _ KA.1;have Fq:B2<wx.heap.size:=World.block_lt_of_cell? _ _ KF.1;have HV:Hid (∀V,Below wx.heap.size wx V->Below w.heap.size w V/\Cells V w.heap.size 102 C/\(V.cell? ⟨B1,0,none⟩=some (.int .u32 t1)/\V.cell? ⟨B1,1,none⟩=some (.int .i64 a1))/\V.cell? ⟨B2,0,none⟩=some (.int .u32 t2)/\V.cell? ⟨B2,1,none⟩=some (.int .i64 a2)):=fun V hV=>by
  obtain⟨h1,h2⟩:=Ee.out V (hb.trans (hV.mono hb.size));exact⟨h1,h2,⟨(hV.cell J7).trans KA.1,(hV.cell J7).trans KA.2⟩,(hV.cell Fq).trans KF.1,(hV.cell Fq).trans KF.2⟩
 obtain⟨Cb,AA,-,-⟩:=HV.out wx (Below.refl _ _);clear hb KA KF J7 Fq Ee HS Cb;have c1:wx.cell? ⟨w.heap.size,1,none⟩=some (.int .i64 xk):=AA.cell 1 _ (by rw[HC.out];rfl);have d12:=AA.cell 12 _ (by rw[HC.out];rfl);have d13:=AA.cell 13 _ (by rw[HC.out];rfl);have d14:=AA.cell 14 _ (by rw[HC.out];rfl);have d15:=AA.cell 15 _ (by rw[HC.out];rfl);have d16:=AA.cell 16 _ (by rw[HC.out];rfl);have d17:=AA.cell 17 _ (by rw[HC.out];rfl);have d18:=AA.cell 18 _ (by rw[HC.out];rfl);have d19:=AA.cell 19 _ (by rw[HC.out];rfl);have d20:=AA.cell 20 _ (by rw[HC.out];rfl);have d21:=AA.cell 21 _ (by rw[HC.out];rfl)
 have d22:=AA.cell 22 _ (by rw[HC.out];rfl);have d23:=AA.cell 23 _ (by rw[HC.out];rfl);have d24:=AA.cell 24 _ (by rw[HC.out];rfl);have d25:=AA.cell 25 _ (by rw[HC.out];rfl);have d26:=AA.cell 26 _ (by rw[HC.out];rfl);have d27:=AA.cell 27 _ (by rw[HC.out];rfl);have d28:=AA.cell 28 _ (by rw[HC.out];rfl);obtain⟨q,hq⟩:∃q:Nat,q=p1%3:=⟨_,rfl⟩
 have Jb:q<3:=by omega
 have e3:Int.tmod (p1:Int) 3=(q:Int):=by rw[J3o (by omega)];omega
 have QR:(q:Int)<3:=by omega
 have Vt:(0:Int)<=(q:Int):=by omega
 obtain⟨D,hD⟩:∃D:List Value,D=[.int .i64 akind,.int .i64 an,.int .i64 ak,.int .i64 am,.int .i64 at_,.int .i64 au,.int .i64 as_,.int .i64 ar,.bool aself,.slice ala all alc,.int .i64 ib,.int .i64 io,.int .i64 ir,.int .i64 iff,.bool ig,.int .i64 awb,.int .i64 awo]:=⟨_,rfl⟩
 have Km:(wx.alloc (.cells #[.int .i64 akind,.int .i64 an,.int .i64 ak,.int .i64 am,.int .i64 at_,.int .i64 au,.int .i64 as_,.int .i64 ar,.bool aself,.slice ala all alc,.int .i64 ib,.int .i64 io,.int .i64 ir,.int .i64 iff,.bool ig,.int .i64 awb,.int .i64 awo] 67))=wx.alloc (.cells D.toArray 67):=by rw[hD]
 have HW:Hid (∀V,Below (wx.alloc (.cells D.toArray 67)).heap.size (wx.alloc (.cells D.toArray 67)) V->Below wx.heap.size wx V/\Cells V wx.heap.size 67 D):=fun V hV=>⟨Q0b hV,(Cells.new wx 67 D).same (hV.block _ (by simp))⟩
 obtain⟨W3,MI⟩:∃W3,W3=wx.alloc (.cells D.toArray 67):=⟨_,rfl⟩
 rw[<- MI] at Km HW;have HD:=Q0a hD;clear hD hq AA MI;go_wp2_with fail;refine(Qa.out _).mono ?_;rintro rr w'⟨rfl,rfl⟩;go_upto_region 4 with fail
 try rw[Km]
 clear Km c1 d12 d13 d14 d15 d16 d17 d18 d19 d20 d21 d22 d23 d24 d25 d26 d27 d28 e3;have Pm:=Q3l at_;have TJ:=Q3l au;have d4:W3.cell? ⟨wx.heap.size,4,none⟩=some (.int .i64 at_):=(HW.out W3 (Below.refl _ _)).2.cell 4 _ (by rw[HD.out];rfl);have d5:W3.cell? ⟨wx.heap.size,5,none⟩=some (.int .i64 au):=(HW.out W3 (Below.refl _ _)).2.cell 5 _ (by rw[HD.out];rfl);have N1:=Q0a ga;obtain⟨pt,Fk⟩:∃p,p=Q4m at_:=⟨_,rfl⟩
 obtain⟨pu,OF⟩:∃p,p=Q4m au:=⟨_,rfl⟩
 rw[<- Fk] at Pm;rw[<- OF] at TJ;have Q8:Hid (∀n,Calls prog 56 #[.int .i64 at_] (W3.drewN n) fun r w'=>r=.returned (.int .i64 ((pt:Nat):Int))/\∃m,w'=W3.drewN m):=fun n=>(Q4n _ at_ N1.out.t).mono fun r w' h=>⟨by rw[Fk];exact h.1,n,h.2.symm⟩
 have Sb:Hid (∀n,Calls prog 56 #[.int .i64 au] (W3.drewN n) fun r w'=>r=.returned (.int .i64 ((pu:Nat):Int))/\∃m,w'=W3.drewN m):=fun n=>(Q4n _ au N1.out.u).mono fun r w' h=>⟨by rw[OF];exact h.1,n,h.2.symm⟩
 clear Fk OF ga;obtain⟨T,hT⟩:∃T:Nat,T=1+pt%2:=⟨_,rfl⟩
 obtain⟨U,hU⟩:∃U:Nat,U=1+pu%2:=⟨_,rfl⟩
 have Ob:T<4294967296:=by omega
 have Vs:U<4294967296:=by omega
 have eT:Int.tmod (pt:Int) 2=((pt%2:Nat):Int):=by rw[J3o (by omega)];omega
 have eU:Int.tmod (pu:Int) 2=((pu%2:Nat):Int):=by rw[J3o (by omega)];omega
 obtain⟨qt,Ry⟩:∃q:Nat,q=pt%2:=⟨_,rfl⟩
 obtain⟨qu,Su⟩:∃q:Nat,q=pu%2:=⟨_,rfl⟩
 rw[<- Ry] at eT hT;rw[<- Su] at eU hU;have b1:(0:Int)<=(qt:Int):=by omega
 have b2:(qt:Int)<2:=by omega
 have b3:(0:Int)<=(qu:Int):=by omega
 have b4:(qu:Int)<2:=by omega
 have fT:(T:Int)=1+(qt:Int):=by omega
 have fU:(U:Int)=1+(qu:Int):=by omega
 have Tu:=Q0a fT;have T6:=Q0a fU;obtain⟨tq,Ue⟩:∃t:Nat,t=1+q:=⟨_,rfl⟩
 have PK:tq<4294967296:=by omega
 have VF:Hid ((tq:Int)=1+(q:Int)):=by show(tq:Int)=1+(q:Int);omega
 clear hT hU Ry Su fT fU Ue
 go_cut [8,10,11] from 32 to 43 (fun s a b wc=>s=.int .u32 tq/\a=.int .u32 T/\b=.int .u32 U/\Below W3.heap.size W3 wc)
 case first =>
  clear HW HV HC HD HT
  go_quiet (first|(go_at_call 56;exact Q8.out _)|(go_at_call 56;exact Sb.out _))
  go_wp2_with fail;go_meet;rw[Tu.out,T6.out,VF.out];exact⟨rfl,rfl,rfl,Q0q (Below.refl _ _) _⟩
 obtain⟨rfl,rfl,rfl,An⟩:=hcut;obtain⟨Ae,FI⟩:=HW.out wc An;obtain⟨Cb,AA,⟨x0,x1⟩,y0,y1⟩:=HV.out wc Ae;have HQ:=HT.out.grown Cb;have EO:Hid (∀V,Below wc.heap.size wc V->Below w.heap.size w V/\Cells V wx.heap.size 67 D):=fun V hV=>by
  have h3:=An.trans (hV.mono An.size);obtain⟨h4,h5⟩:=HW.out V h3;exact⟨(HV.out V h4).1,h5⟩
 have FN:wx.heap.size<wc.heap.size:=FI.lt;have Nu:=Q0a FN;have Iu:Hid (w.heap.size<=wx.heap.size):=(HV.out wx (Below.refl _ _)).1.size;have c0:wc.cell? ⟨w.heap.size,0,none⟩=some (.int .i64 kind):=AA.cell 0 _ (by rw[HC.out];rfl);have IC:L.length<=200/\W.length<=20/\I.length<=20/\all<=20:=hf;obtain⟨UD,Ud,TQ,Ui⟩:=IC;obtain⟨⟨FB,Gu⟩,LL,QW⟩:=Vf.out;have Mh:=hl;obtain⟨lL,lW,lI,lA⟩:=Mh;clear HW HV Qa JN Q8 Sb d4 d5 An Ae hf hl FN;by_cases e0:kind=0
 ·subst e0;have c7:wc.cell? ⟨w.heap.size,7,none⟩=some (.int .u64 lb):=AA.cell 7 _ (by rw[HC.out];rfl);have c8:wc.cell? ⟨w.heap.size,8,none⟩=some (.slice wa W.length wcp):=AA.cell 8 _ (by rw[HC.out];rfl);have c9:wc.cell? ⟨w.heap.size,9,none⟩=some (.slice ia I.length icp):=AA.cell 9 _ (by rw[HC.out];rfl);have HK:=Q0a ((J1m HQ FB LL glb wcp icp lW lI gW gI Ud TQ));have CS:Hid (∀V,CaT c k ge f N K M w0 V->CaT c k ge f (N+1) K (M+256) w0 V):=fun V h=>h.mono (by omega) (J1E _) (by omega)
  clear HQ AA FI HC HD EO lL lW lI lA gL gW gI;generalize W.length=nW at *
  generalize I.length=nI at *
  go_wp2_with fail;refine HK.out.mono ?_;rintro rv w'⟨⟨er,rfl⟩,hq⟩;have HR:=Q0a (CS.out _ hq);clear hq HK CS;go_wp2_with fail
  first|exact⟨rfl,HR.out⟩|(go_end0;exact⟨rfl,HR.out⟩)
 by_cases e1:kind=1
 ·subst e1;have Wg:wc.cell? ⟨w.heap.size,10,none⟩=some (.int .i64 vb):=AA.cell 10 _ (by rw[HC.out];rfl);have Wp:wc.cell? ⟨w.heap.size,11,none⟩=some (.int .i64 vo):=AA.cell 11 _ (by rw[HC.out];rfl);have HK:=Q0a (J0w HQ FB LL vb vo);have CS:Hid (∀V,CaT c k ge f N K M w0 V->CaT c k ge f (N+1) K (M+256) w0 V):=fun V h=>h.mono (by omega) (J1E _) (by omega)
  clear HQ AA FI HC HD EO lL lW lI lA gL gW gI;go_wp2_with fail;refine HK.out.mono ?_;rintro rv w'⟨⟨er,rfl⟩,hq⟩;have HR:=Q0a (CS.out _ hq);clear hq HK CS;go_wp2_with fail
  first|exact⟨rfl,HR.out⟩|(go_end0;exact⟨rfl,HR.out⟩)
 by_cases e2:kind=2
 ·subst e2;have c5:wc.cell? ⟨w.heap.size,5,none⟩=some (.int .u64 xx):=AA.cell 5 _ (by rw[HC.out];rfl);have HK:=Q0a (Z8z HQ (by omega) FB Gu LL QW gx);have CS:Hid (∀V,CaT c k ge f N K (M+256) w0 V->CaT c k ge f (N+1) K (M+256) w0 V):=fun V h=>h.mono (by omega) (J1E _) (by omega)
  clear HQ AA FI HC HD EO lL lW lI lA gL gW gI;go_wp2_with fail;refine HK.out.mono ?_;rintro rv w'⟨⟨er,rfl⟩,hq⟩;have HR:=Q0a (CS.out _ hq);clear hq HK CS;go_wp2_with fail
  first|exact⟨rfl,HR.out⟩|(go_end0;exact⟨rfl,HR.out⟩)
 by_cases e3:kind=3∨kind=4
 ·have c3:wc.cell? ⟨w.heap.size,3,none⟩=some (.int .i64 xs):=AA.cell 3 _ (by rw[HC.out];rfl);have c4:wc.cell? ⟨w.heap.size,4,none⟩=some (.int .i64 xo):=AA.cell 4 _ (by rw[HC.out];rfl);have c6:wc.cell? ⟨w.heap.size,6,none⟩=some (.slice la L.length lcp):=AA.cell 6 _ (by rw[HC.out];rfl);have HK:=Q0a (Z8A HQ PK xs xo go lcp lL gL UD);have CS:Hid (∀V,CaT c k ge f N K M w0 V->CaT c k ge f (N+1) K (M+256) w0 V):=fun V h=>h.mono (by omega) (J1E _) (by omega)
  clear HQ AA FI HC HD EO lL lW lI lA gL gW gI e0 e1 e2;generalize L.length=nL at *
  rcases e3 with rfl|rfl
  ·go_wp2_with fail;refine HK.out.mono ?_;rintro rv w'⟨⟨er,rfl⟩,hq⟩;have HR:=Q0a (CS.out _ hq);clear hq HK CS;go_wp2_with fail
   first|exact⟨rfl,HR.out⟩|(go_end0;exact⟨rfl,HR.out⟩)
  ·go_wp2_with fail;refine HK.out.mono ?_;rintro rv w'⟨⟨er,rfl⟩,hq⟩;have HR:=Q0a (CS.out _ hq);clear hq HK CS;go_wp2_with fail
   first|exact⟨rfl,HR.out⟩|(go_end0;exact⟨rfl,HR.out⟩)
 have CS:Hid (∀V,CaT c k ge f N K M w0 V->CaT c k ge f (N+1) K (M+256) w0 V):=fun V h=>h.mono (by omega) (J1E _) (by omega)
 by_cases e5:kind=5
 ·subst e5;have b0:wc.cell? ⟨wx.heap.size,0,none⟩=some (.int .i64 akind):=FI.cell 0 _ (by rw[HD.out];rfl);obtain⟨s,KJ⟩:=Z6f HT.out hN (by omega);have Dp:=Q0a fun V (hV:Below wc.heap.size wc V)=>KJ V (EO.out V hV).1
  have BA:Hid (Below wc.heap.size wc wc.drew):=(Below.refl _ _).drew;have Di:Hid (Below wc.heap.size wc wc):=Below.refl _ _;clear KJ AA e0 e1 e2 e3 lL lW lI gL gW gI;by_cases a1':akind=1
  ·subst a1';have Ck:Hid (∀V,Below wc.heap.size wc V->V.cell? ⟨wx.heap.size,6,none⟩=some (.int .i64 as_)/\V.cell? ⟨wx.heap.size,1,none⟩=some (.int .i64 an)/\V.cell? ⟨wx.heap.size,7,none⟩=some (.int .i64 ar)):=fun V hV=>by
    have h:=(EO.out V hV).2;exact⟨h.cell 6 _ (by rw[HD.out];rfl),h.cell 1 _ (by rw[HD.out];rfl),h.cell 7 _ (by rw[HD.out];rfl)⟩
   have Fj:=Q3l an;have Ti:Hid (∀V,Calls prog 56 #[.int .i64 an] V fun r w'=>r=.returned (.int .i64 ((Q4m an:Nat):Int))/\V=w'):=fun V=>Q4n V an N1.out.n
   generalize Q4m an=pn at *
   have E6:(0:Int)<=(pn:Int):=by omega
   have NJ:(pn:Int)<5:=by omega
   obtain⟨hn,Vq⟩:∃h:Nat,h=1+pn:=⟨_,rfl⟩
   have LR:hn<4294967296:=by omega
   have en:IntKind.u32.wrap (IntKind.i64.wrap (1+(pn:Int)))=(hn:Int):=by rw[Go.IntWalk.i64_in _ (by omega),Go.IntWalk.u32_in _ (by omega)];omega
   have UI:Hid (∀V,Below wc.heap.size wc V->Calls prog 41 #[.pointer (some ⟨s,0,none⟩),.int .u32 T,.int .i64 as_,.agg #[.int .u32 (IntKind.u32.wrap (IntKind.i64.wrap (1+(pn:Int)))),.int .i64 ar]] V fun r w'=>(∃e:Int,r=.returned (.int .i64 e))/\CaT c k ge f (N+1) K (M+256) w0 w'/\(∀b,w.heap.size<=b->b<V.heap.size->w'.heap[b]?=V.heap[b]?)):=fun V hV=>by
    rw[en];exact(Dp.out V hV).2.1 T hn as_ ar Ob LR
   have JO:Hid (∀V,Below wc.heap.size wc V->Calls prog 44 #[.pointer (some ⟨c,0,none⟩)] V fun r w'=>r=.returned (.pointer (some ⟨s,0,none⟩))/\V=w'):=fun V hV=>(Dp.out V hV).1
   have K0:Hid (∀V,Below wc.heap.size wc V->wx.heap.size<V.heap.size):=fun V hb=>J1G Nu.out hb.size
   clear Dp HQ FI HC HD EO Vq LR en lA HT CS;go_upto_region 18 with fail
   go_region_held3 (fun V=>V.cell? ⟨wx.heap.size,6,none⟩=some (.int .i64 as_)/\V.cell? ⟨wx.heap.size,1,none⟩=some (.int .i64 an)/\V.cell? ⟨wx.heap.size,7,none⟩=some (.int .i64 ar))
    (first|exact Hu.out|exact Ck.out _ BA.out|exact Ck.out _ Di.out)
    (first|(go_at_call 44;refine(JO.out _ BA.out).mono ?_;rintro rv w'⟨rfl,rfl⟩)|(go_at_call 56;refine(Ti.out _).mono ?_;rintro rv w'⟨rfl,rfl⟩)|(go_at_call 41;refine(UI.out _ BA.out).mono ?_;rintro rv w'⟨⟨er,rfl⟩,hq,DS⟩;have CQ:=DS wx.heap.size Iu.out (K0.out _ BA.out);have CH:=Ck.out _ BA.out;have Hu:=Q0a (And.intro ((World.cell?_of_block (w:=_) (a:=⟨wx.heap.size,6,none⟩) CQ).trans CH.1) (And.intro ((World.cell?_of_block (w:=_) (a:=⟨wx.heap.size,1,none⟩) CQ).trans CH.2.1) ((World.cell?_of_block (w:=_) (a:=⟨wx.heap.size,7,none⟩) CQ).trans CH.2.2)));have HR:=Q0a hq;clear hq DS CQ CH))
   all_goals (go_wp2_with fail;first|exact⟨rfl,HR.out⟩|(go_end0;exact⟨rfl,HR.out⟩))
  by_cases a2':akind=2
  ·subst a2';have Ck:Hid (∀V,Below wc.heap.size wc V->V.cell? ⟨wx.heap.size,9,none⟩=some (.slice ala all alc)):=fun V hV=>(EO.out V hV).2.cell 9 _ (by rw[HD.out];rfl)
   have K4:=N1.out.len.1;have Vu:Hid (∀V,Below wc.heap.size wc V->Calls prog 39 #[.pointer (some ⟨s,0,none⟩),.int .u32 T,.int .u32 U,.slice ala all alc] V fun r w'=>(∃e:Int,r=.returned (.int .i64 e))/\CaT c k ge f (N+1) K (M+256) w0 w'/\(∀b,w.heap.size<=b->b<V.heap.size->w'.heap[b]?=V.heap[b]?)):=fun V hV=>(Dp.out V hV).2.2.1 T U all alc _ ala Ob Vs Ui K4 lA
   have JO:Hid (∀V,Below wc.heap.size wc V->Calls prog 44 #[.pointer (some ⟨c,0,none⟩)] V fun r w'=>r=.returned (.pointer (some ⟨s,0,none⟩))/\V=w'):=fun V hV=>(Dp.out V hV).1
   have K0:Hid (∀V,Below wc.heap.size wc V->wx.heap.size<V.heap.size):=fun V hb=>J1G Nu.out hb.size
   clear Dp HQ FI HC HD EO lA HT CS K4;go_upto_region 20 with fail
   go_region_held3 (fun V=>V.cell? ⟨wx.heap.size,9,none⟩=some (.slice ala all alc))
    (first|exact Hu.out|exact Ck.out _ BA.out|exact Ck.out _ Di.out)
    (first|(go_at_call 44;refine(JO.out _ BA.out).mono ?_;rintro rv w'⟨rfl,rfl⟩)|(go_at_call 39;refine(Vu.out _ BA.out).mono ?_;rintro rv w'⟨⟨er,rfl⟩,hq,DS⟩;have CQ:=DS wx.heap.size Iu.out (K0.out _ BA.out);have CH:=Ck.out _ BA.out;have Hu:=Q0a ((World.cell?_of_block (w:=_) (a:=⟨wx.heap.size,9,none⟩) CQ).trans CH);have HR:=Q0a hq;clear hq DS CQ CH))
   all_goals (go_wp2_with fail;first|exact⟨rfl,HR.out⟩|(go_end0;exact⟨rfl,HR.out⟩))
  by_cases a4':akind=4
  ·subst a4';have Ck:Hid (∀V,Below wc.heap.size wc V->V.cell? ⟨wx.heap.size,6,none⟩=some (.int .i64 as_)/\V.cell? ⟨wx.heap.size,7,none⟩=some (.int .i64 ar)/\V.cell? ⟨wx.heap.size,8,none⟩=some (.bool aself)):=fun V hV=>by
    have h:=(EO.out V hV).2;exact⟨h.cell 6 _ (by rw[HD.out];rfl),h.cell 7 _ (by rw[HD.out];rfl),h.cell 8 _ (by rw[HD.out];rfl)⟩
   have Kv:Hid (∀V,Below wc.heap.size wc V->Calls prog 81 #[.pointer (some ⟨s,0,none⟩),.int .u32 T,.int .i64 as_,.int .i64 ar,.bool aself] V fun r w'=>(∃x y:Value,r=.returned (.tuple #[x,y]))/\CaT c k ge f (N+1) K (M+256) w0 w'/\(∀b,w.heap.size<=b->b<V.heap.size->w'.heap[b]?=V.heap[b]?)):=fun V hV=>(Dp.out V hV).2.2.2.1 T as_ ar aself Ob
   have JO:Hid (∀V,Below wc.heap.size wc V->Calls prog 44 #[.pointer (some ⟨c,0,none⟩)] V fun r w'=>r=.returned (.pointer (some ⟨s,0,none⟩))/\V=w'):=fun V hV=>(Dp.out V hV).1
   have K0:Hid (∀V,Below wc.heap.size wc V->wx.heap.size<V.heap.size):=fun V hb=>J1G Nu.out hb.size
   clear Dp HQ FI HC HD EO lA HT CS;go_upto_region 22 with fail
   go_region_held3 (fun V=>V.cell? ⟨wx.heap.size,6,none⟩=some (.int .i64 as_)/\V.cell? ⟨wx.heap.size,7,none⟩=some (.int .i64 ar)/\V.cell? ⟨wx.heap.size,8,none⟩=some (.bool aself))
    (first|exact Hu.out|exact Ck.out _ BA.out|exact Ck.out _ Di.out)
    (first|(go_at_call 44;refine(JO.out _ BA.out).mono ?_;rintro rv w'⟨rfl,rfl⟩)|(go_at_call 81;refine(Kv.out _ BA.out).mono ?_;rintro rv w'⟨⟨xx1,yy1,rfl⟩,hq,DS⟩;have CQ:=DS wx.heap.size Iu.out (K0.out _ BA.out);have CH:=Ck.out _ BA.out;have Hu:=Q0a (And.intro ((World.cell?_of_block (w:=_) (a:=⟨wx.heap.size,6,none⟩) CQ).trans CH.1) (And.intro ((World.cell?_of_block (w:=_) (a:=⟨wx.heap.size,7,none⟩) CQ).trans CH.2.1) ((World.cell?_of_block (w:=_) (a:=⟨wx.heap.size,8,none⟩) CQ).trans CH.2.2)));have HR:=Q0a hq;clear hq DS CQ CH))
   all_goals (go_wp2_with fail;first|exact⟨rfl,HR.out⟩|(go_end0;exact⟨rfl,HR.out⟩))
  by_cases a9':akind=9
  ·subst a9';have Ck:Hid (∀V,Below wc.heap.size wc V->V.cell? ⟨wx.heap.size,6,none⟩=some (.int .i64 as_)/\V.cell? ⟨wx.heap.size,2,none⟩=some (.int .i64 ak)/\V.cell? ⟨wx.heap.size,3,none⟩=some (.int .i64 am)):=fun V hV=>by
    have h:=(EO.out V hV).2;exact⟨h.cell 6 _ (by rw[HD.out];rfl),h.cell 2 _ (by rw[HD.out];rfl),h.cell 3 _ (by rw[HD.out];rfl)⟩
   have UA:Hid (∀V,Below wc.heap.size wc V->Calls prog 40 #[.pointer (some ⟨s,0,none⟩),.int .u32 T,.int .i64 as_,.int .u32 0,.int .i64 ak,.int .i64 am] V fun r w'=>(∃(x:Nat) (e:Int),r=.returned (.tuple #[.int .u32 x,.int .i64 e]))/\CaT c k ge f (N+1) K (M+256) w0 w'/\(∀b,w.heap.size<=b->b<V.heap.size->w'.heap[b]?=V.heap[b]?)):=fun V hV=>(Dp.out V hV).2.2.2.2 T as_ ak am Ob
   have JO:Hid (∀V,Below wc.heap.size wc V->Calls prog 44 #[.pointer (some ⟨c,0,none⟩)] V fun r w'=>r=.returned (.pointer (some ⟨s,0,none⟩))/\V=w'):=fun V hV=>(Dp.out V hV).1
   have K0:Hid (∀V,Below wc.heap.size wc V->wx.heap.size<V.heap.size):=fun V hb=>J1G Nu.out hb.size
   clear Dp HQ FI HC HD EO lA HT CS;go_upto_region 24 with fail
   go_region_held3 (fun V=>V.cell? ⟨wx.heap.size,6,none⟩=some (.int .i64 as_)/\V.cell? ⟨wx.heap.size,2,none⟩=some (.int .i64 ak)/\V.cell? ⟨wx.heap.size,3,none⟩=some (.int .i64 am))
    (first|exact Hu.out|exact Ck.out _ BA.out|exact Ck.out _ Di.out)
    (first|(go_at_call 44;refine(JO.out _ BA.out).mono ?_;rintro rv w'⟨rfl,rfl⟩)|(go_at_call 40;refine(UA.out _ BA.out).mono ?_;rintro rv w'⟨⟨xx1,yy1,rfl⟩,hq,DS⟩;have CQ:=DS wx.heap.size Iu.out (K0.out _ BA.out);have CH:=Ck.out _ BA.out;have Hu:=Q0a (And.intro ((World.cell?_of_block (w:=_) (a:=⟨wx.heap.size,6,none⟩) CQ).trans CH.1) (And.intro ((World.cell?_of_block (w:=_) (a:=⟨wx.heap.size,2,none⟩) CQ).trans CH.2.1) ((World.cell?_of_block (w:=_) (a:=⟨wx.heap.size,3,none⟩) CQ).trans CH.2.2)));have HR:=Q0a hq;clear hq DS CQ CH))
   all_goals (go_wp2_with fail;first|exact⟨rfl,HR.out⟩|(go_end0;exact⟨rfl,HR.out⟩))
  have f1:(akind==1)=false:=by simpa using a1'
  have f2:(akind==2)=false:=by simpa using a2'
  have f4:(akind==4)=false:=by simpa using a4'
  have f9:(akind==9)=false:=by simpa using a9'
  have HR:=Q0a (CS.out _ HQ);clear Dp HQ FI HC HD EO lA HT CS a1' a2' a4' a9';go_wp2_with fail
  first|exact⟨rfl,HR.out⟩|(go_end0;exact⟨rfl,HR.out⟩)
 have f0:(kind==0)=false:=by simpa using e0
 have f1:(kind==1)=false:=by simpa using e1
 have f2:(kind==2)=false:=by simpa using e2
 have f3:(kind==3)=false:=by simp;omega
 have f4:(kind==4)=false:=by simp;omega
 have f5:(kind==5)=false:=by simpa using e5
 have HR:=Q0a (CS.out _ HQ);clear HQ FI AA HC HD EO lL lW lI lA gL gW gI HT CS e0 e1 e2 e3 e5;go_wp2_with fail
 first|exact⟨rfl,HR.out⟩|(go_end0;exact⟨rfl,HR.out⟩)
theorem Q9q{A:Nat->A19}{n:Nat}(h:Q4o A n=true):n<=40/\∀j,j<n->few1 (A j):=by
 unfold Q4o at h;exact of_decide_eq_true h
theorem J0x:(prog.info? 102).map (·.size)=some 29:=by kernel_rfl
theorem Z1r{w:World}{a0:Option Addr}{n:Nat}{A:Nat->A19}(hA:IsA19 w a0 n A){c k ge cap:Nat}{f:Nat->Nat×Nat}{N K:Nat}{M:Int}{w0 wr:World}(Cb:Below w.heap.size w w0)(h:CaT c k ge f N K M w0 wr)(hN:N+1<1048576)(hM:M+300<1099511627776){i:Nat}(hi:i<n)(hf:few1 (A i)) :
  ∃(g o:Nat) (cs:List Value),a0=some ⟨g,o,none⟩/\wr.rangeAt g (o+i*29) cs/\(prog.info? 102).map (·.size)=some cs.length/\Calls prog 48 #[.pointer (some ⟨c,0,none⟩),.slice (some ⟨ge,0,none⟩) 5 cap,.agg cs.toArray] wr fun r w'=>r=.returned (.tuple #[])/\CaT c k ge f (N+1) K (M+256) w0 w':=by
 obtain⟨g,o,e,hg,hc,FS,hl⟩:=hA i hi;have hb:=Cb.trans (h.below.mono Cb.size);exact⟨g,o,(A i).cells,e,fun j v hv=>(World.cell?_of_block (w:=w) (hb.block g hg)).trans (hc j v hv),by rw[A19.len];exact J0x,Z3c (cap:=cap) h hN hM (A i) FS (hl.below Cb) hf⟩
def Q7Z:List (String×DataW Unit):=[("math/bits.deBruijn32tab", Rows.laid_math_bits_deBruijn32tab),("math/bits.deBruijn64tab", Rows.laid_math_bits_deBruijn64tab),("quartermaster/pool.costs", Rows.laid_quartermaster_pool_costs)]
def J1A:List Int:=[0,1,28,2,29,14,24,3,30,22,20,15,25,17,4,8,31,27,13,23,21,19,16,7,26,12,18,6,11,5,10,9]
theorem g32:prog.globalNamed "math/bits.deBruijn32tab" = some 2:=by kernel_rfl
theorem t32:(prog.globals[2]?).map (·.type)=some 317:=by kernel_rfl
theorem g64:prog.globalNamed "math/bits.deBruijn64tab" = some 1:=by kernel_rfl
theorem J1n:prog.globalNamed "quartermaster/pool.costs" = some 0:=by kernel_rfl
theorem t64:(prog.globals[1]?).map (·.type)=some 296:=by kernel_rfl
theorem J1B:(prog.globals[0]?).map (·.type)=some 138:=by kernel_rfl
theorem Q6p{W:World}(h:laidMetH prog Q7Z W):Env W:=by
 rw [MakeChecks.laidMetH_plain _ _ _ (by kernel_rfl)] at h;have h1:laidMet prog (("math/bits.deBruijn32tab", Lib.tabData .u8 J1A)::[("math/bits.deBruijn64tab", Rows.laid_math_bits_deBruijn64tab),("quartermaster/pool.costs", Rows.laid_quartermaster_pool_costs)]) W:=h
 have hA:=Lib.tabIs_of_head g32 t32 underlying317 underlying5 (by kernel_rfl) (by kernel_rfl) h1;have h2:laidMet prog (("math/bits.deBruijn64tab", Lib.tabData .u8 (dbt.map fun (n:Nat)=>(n:Int)))::[("quartermaster/pool.costs", Rows.laid_quartermaster_pool_costs)]) W:=laidMet.tail h1
 have h3:laidMet prog (("quartermaster/pool.costs", Lib.tabData .i64 Z3h)::[]) W:=laidMet.tail h2
 have hB:=Lib.tabIs_of_head g64 t64 underlying296 underlying5 (by kernel_rfl) (by kernel_rfl) h2;have hC:=Lib.tabIs_of_head J1n J1B underlying138 underlying3 (by kernel_rfl) (by kernel_rfl) h3;have cB:TabB W:=by
  intro j v hv;have hj:=(J1V.1 hv).1;have:=hB.cell g64 j (by simpa using hj);rw[this];congr 2;simp[List.getD,hv]
 have cC:TabC W:=by
  intro j v hv;have hj:=(J1V.1 hv).1;have:=hC.cell J1n j (by simpa using hj);rw[this];congr 2;simp[List.getD,hv]
 refine⟨?_,cB,cC⟩;have c0:=World.block_lt_of_cell? W ⟨1,0,none⟩ (cB 0 0 rfl);have c1:=World.block_lt_of_cell? W ⟨0,0,none⟩ (cC 0 0 rfl);have c2:=World.block_lt_of_cell? W ⟨2,0,none⟩ (hA.cell g32 0 (by decide));have NK:1<W.heap.size:=c0;have Sx:0<W.heap.size:=c1;have We:2<W.heap.size:=c2;unfold GB;omega
end Go.Proofs.YtfidemmgofcnmaaGreatDoor
