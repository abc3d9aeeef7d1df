/- What the laws of spaces share is proved. No condition. Part of a proof. -/
import Derived.Test.YtfidemmgofcnmaaGreatDoorBz30
import Derived.Lib.LaidTab
import Derived.LaidMore
import Derived.MakeChecks
import Derived.Stop.LaidErr
set_option maxHeartbeats 8000000
set_option maxRecDepth 100000
set_option linter.unusedVariables false
namespace Go.Proofs.YtfidemmgofcnmaaGreatDoor
open Go.RowKit Go.Proofs.Tryz
def tkE(f:Nat->Nat×Nat)(i:Nat):Nat:=((endL f).getD i (0,0)).1
def atE(f:Nat->Nat×Nat)(i:Nat):Nat:=((endL f).getD i (0,0)).2
theorem Z2m(f:Nat->Nat×Nat){i:Nat}(hi:i<5):tkE f i<=2:=by
 have:i=0∨i=1∨i=2∨i=3∨i=4:=by omega
 rcases this with rfl|rfl|rfl|rfl|rfl
 ·exact(by decide:(1:Nat)<=2)
 ·exact J3h 2
 ·exact(by decide:(1:Nat)<=2)
 ·exact J5d 2
 ·exact(by decide:(1:Nat)<=2)
theorem Q3U(f:Nat->Nat×Nat){i:Nat}(hi:i<5):(endC (endL f))[2*i]?=some (.int .u32 (tkE f i:Int))/\(endC (endL f))[2*i+1]?=some (.int .i64 (atE f i:Int)):=by
 have:i=0∨i=1∨i=2∨i=3∨i=4:=by omega
 rcases this with rfl|rfl|rfl|rfl|rfl <;> exact⟨rfl,rfl⟩
section
variable {c k ge:Nat} {f:Nat->Nat×Nat} {N K:Nat} {M:Int} {w0 wr w':World}
theorem CaT.atE_lt(h:CaT c k ge f N K M w0 wr){i:Nat}(hi:i<5):atE f i<=65536:=by
 have hl:=h.low;have:i=0∨i=1∨i=2∨i=3∨i=4:=by omega
 rcases this with rfl|rfl|rfl|rfl|rfl
 ·show(f 2).1<=_;omega
 ·show(f 3).1<=_;omega
 ·show(f 4).1<=_;omega
 ·show(f 2).1<=_;omega
 ·show(f 2).1+8<=_;omega
end
theorem Z3Y{c k ge cap:Nat}{f:Nat->Nat×Nat}{N K:Nat}{M:Int}{w0 w:World}(h:CaT c k ge f N K M w0 w)(hN:N+1<1048576)(hM:M+300<1099511627776)(x:A19)(hx:x.Wf)(hl:A19.Lies w0 x)(hf:few1 x) :
  Calls prog 48 #[.pointer (some ⟨c,0,none⟩),.slice (some ⟨ge,0,none⟩) 5 cap,.agg x.cells.toArray] w fun r w'=>r=.returned (.tuple #[])/\CaT c k ge f (N+1) K (M+256) w0 w':=by
 have HT:=Q0a h;obtain⟨gk,g1,g2,gs,go,gx,glc,glb,gwc,gic,gwin,ga,gL,gW,gI⟩:=hx;obtain⟨kind,xk,xt,xs,xo,xx,la,lcp,L,lb,wa,wcp,W,ia,icp,I,⟨vb,vo⟩,⟨akind,an,ak,am,at_,au,as_,ar,aself,ala,all,alc,aL,⟨ib,io,ir,iff,ig⟩,⟨awb,awo⟩⟩⟩:=x;dsimp only at *
 have AO:(A19.cells ⟨kind,xk,xt,xs,xo,xx,la,lcp,L,lb,wa,wcp,W,ia,icp,I,⟨vb,vo⟩,⟨akind,an,ak,am,at_,au,as_,ar,aself,ala,all,alc,aL,⟨ib,io,ir,iff,ig⟩,⟨awb,awo⟩⟩⟩).toArray=#[.int .i64 kind,.int .i64 xk,.int .i64 xt,.int .i64 xs,.int .i64 xo,.int .u64 xx,.slice la L.length lcp,.int .u64 lb,.slice wa W.length wcp,.slice ia I.length icp,.int .i64 vb,.int .i64 vo,.int .i64 akind,.int .i64 an,.int .i64 ak,.int .i64 am,.int .i64 at_,.int .i64 au,.int .i64 as_,.int .i64 ar,.bool aself,.slice ala all alc,.int .i64 ib,.int .i64 io,.int .i64 ir,.int .i64 iff,.bool ig,.int .i64 awb,.int .i64 awo]:=rfl;rw[AO]
 clear AO;have HK:=Q0a (⟨g1,g2⟩:I64 xk/\I64 xt);have A3:=Q2g xk;have Az:=Q2g xt;obtain⟨p1,Lb⟩:∃p,p=Q2M xk:=⟨_,rfl⟩
 obtain⟨p2,Ki⟩:∃p,p=Q2M xt:=⟨_,rfl⟩
 rw[<- Lb] at A3;rw[<- Ki] at Az;have LG:Hid (∀W,Calls prog 56 #[.int .i64 xk] W fun r w'=>r=.returned (.int .i64 ((p1:Nat):Int))/\W=w'):=fun W=>by rw[Lb];exact Q2K W xk HK.out.1
 have FP:Hid (∀W,Calls prog 56 #[.int .i64 xt] W fun r w'=>r=.returned (.int .i64 ((p2:Nat):Int))/\W=w'):=fun W=>by rw[Ki];exact Q2K W xt HK.out.2
 clear Lb Ki;have Uu:Hid (∀V,Below w.heap.size w V->V.cell? ⟨ge,2*p1,none⟩=some (.int .u32 (tkE f p1:Int))/\V.cell? ⟨ge,2*p1+1,none⟩=some (.int .i64 (atE f p1:Int))/\V.cell? ⟨ge,2*p2,none⟩=some (.int .u32 (tkE f p2:Int))/\V.cell? ⟨ge,2*p2+1,none⟩=some (.int .i64 (atE f p2:Int))):=fun V hV=>by
  have hg:=HT.out.grown hV;exact⟨hg.cells _ _ (Q3U f A3).1,hg.cells _ _ (Q3U f A3).2,hg.cells _ _ (Q3U f Az).1,hg.cells _ _ (Q3U f Az).2⟩
 have Vt:Hid ((tkE f p1<4294967296/\tkE f p2<4294967296)/\atE f p1<=65536/\atE f p2<=65536):=⟨⟨by have:=Z2m f A3;omega,by have:=Z2m f Az;omega⟩,HT.out.atE_lt A3,HT.out.atE_lt Az⟩
 generalize tkE f p1=t1 at *
 generalize tkE f p2=t2 at *
 generalize atE f p1=a1 at *
 generalize atE f p2=a2 at *
 have D9:(p1:Int)<5:=by omega
 have IT:(p2:Int)<5:=by omega
 have PE:(0:Int)<=(p1:Int):=by omega
 have NO:(0:Int)<=(p2:Int):=by omega
 obtain⟨C,hC⟩:∃C:List Value,C=[.int .i64 kind,.int .i64 xk,.int .i64 xt,.int .i64 xs,.int .i64 xo,.int .u64 xx,.slice la L.length lcp,.int .u64 lb,.slice wa W.length wcp,.slice ia I.length icp,.int .i64 vb,.int .i64 vo,.int .i64 akind,.int .i64 an,.int .i64 ak,.int .i64 am,.int .i64 at_,.int .i64 au,.int .i64 as_,.int .i64 ar,.bool aself,.slice ala all alc,.int .i64 ib,.int .i64 io,.int .i64 ir,.int .i64 iff,.bool ig,.int .i64 awb,.int .i64 awo]:=⟨_,rfl⟩
 have Iu:(w.alloc (.cells #[.int .i64 kind,.int .i64 xk,.int .i64 xt,.int .i64 xs,.int .i64 xo,.int .u64 xx,.slice la L.length lcp,.int .u64 lb,.slice wa W.length wcp,.slice ia I.length icp,.int .i64 vb,.int .i64 vo,.int .i64 akind,.int .i64 an,.int .i64 ak,.int .i64 am,.int .i64 at_,.int .i64 au,.int .i64 as_,.int .i64 ar,.bool aself,.slice ala all alc,.int .i64 ib,.int .i64 io,.int .i64 ir,.int .i64 iff,.bool ig,.int .i64 awb,.int .i64 awo] 102))=w.alloc (.cells C.toArray 102):=by rw[hC]
 have AT:(w.alloc (.cells C.toArray 102)).heap.size=w.heap.size+1:=by simp
 have BP:Hid (∀V,Below (w.alloc (.cells C.toArray 102)).heap.size (w.alloc (.cells C.toArray 102)) V->Below w.heap.size w V/\Cells V w.heap.size 102 C):=fun V hV=>⟨Q0b hV,(Cells.new w 102 C).same (hV.block _ (by simp))⟩
 have U7:=Q0a AT;obtain⟨W1,Hu⟩:∃W1,W1=w.alloc (.cells C.toArray 102):=⟨_,rfl⟩
 rw[<- Hu] at Iu BP U7;have HC:=Q0a hC;have HS:Hid (∀V,Below W1.heap.size W1 V->(V.cell? ⟨w.heap.size,1,none⟩=some (.int .i64 xk)/\V.cell? ⟨w.heap.size,2,none⟩=some (.int .i64 xt))/\(V.cell? ⟨ge,p1*2,none⟩=some (.int .u32 t1)/\V.cell? ⟨ge,p1*2+1,none⟩=some (.int .i64 a1))/\V.cell? ⟨ge,p2*2,none⟩=some (.int .u32 t2)/\V.cell? ⟨ge,p2*2+1,none⟩=some (.int .i64 a2)):=fun V hV=>by
  obtain⟨hb,hc⟩:=BP.out V hV;obtain⟨q1,q2,q3,q4⟩:=Uu.out V hb;rw[J6b p1 2,J6b p2 2];exact⟨⟨hc.cell 1 _ (by rw[HC.out];rfl),hc.cell 2 _ (by rw[HC.out];rfl)⟩,⟨q1,q2⟩,q3,q4⟩
 clear h hC Uu AT Hu;go_enter func48,ntmps48;go_upto_region 1 with fail
 try rw[Iu]
 clear Iu
 go_cut [6,7] from 12 to 23 (fun a b wc=>∃B1 B2:Nat,a=.pointer (some ⟨B1,0,none⟩)/\b=.pointer (some ⟨B2,0,none⟩)/\Below W1.heap.size W1 wc/\(wc.cell? ⟨B1,0,none⟩=some (.int .u32 t1)/\wc.cell? ⟨B1,1,none⟩=some (.int .i64 a1))/\wc.cell? ⟨B2,0,none⟩=some (.int .u32 t2)/\wc.cell? ⟨B2,1,none⟩=some (.int .i64 a2))
 case first =>
  clear BP HC HT
  go_region_held3 (fun V=>(V.cell? ⟨w.heap.size,1,none⟩=some (.int .i64 xk)/\V.cell? ⟨w.heap.size,2,none⟩=some (.int .i64 xt))/\(V.cell? ⟨ge,p1*2,none⟩=some (.int .u32 t1)/\V.cell? ⟨ge,p1*2+1,none⟩=some (.int .i64 a1))/\V.cell? ⟨ge,p2*2,none⟩=some (.int .u32 t2)/\V.cell? ⟨ge,p2*2+1,none⟩=some (.int .i64 a2))
   (first|(refine HS.out _ ?_;repeat' first|exact Below.refl _ _|refine Below.drew ?_|refine Below.alloc ?_ (by simp) _|refine Below.setCell ?_ (by simp) _))
   (first|(go_at_call 56;(first|refine(LG.out _).mono ?_|refine(FP.out _).mono ?_);rintro rv w'⟨rfl,rfl⟩))
  all_goals (go_wp2_with fail;go_meet)
  all_goals
   refine⟨_,_,rfl,rfl,?_,⟨?_,?_⟩,?_,?_⟩
   ·repeat' first|exact Below.refl _ _|refine Below.drew ?_|refine Below.alloc ?_ (by simp) _|refine Below.setCell ?_ (by simp) _
   all_goals simp[go_sem]
 obtain⟨B1,B2,rfl,rfl,hb,Kj,Lt⟩:=hcut;obtain⟨wx,Ng⟩:∃wx:World,wx=wc:=⟨_,rfl⟩
 subst Ng;have MX:B1<wx.heap.size:=World.block_lt_of_cell? _ _ Kj.1;have E6:B2<wx.heap.size:=World.block_lt_of_cell? _ _ Lt.1;have HV:Hid (∀V,Below wx.heap.size wx V->Below w.heap.size w V/\Cells V w.heap.size 102 C/\(V.cell? ⟨B1,0,none⟩=some (.int .u32 t1)/\V.cell? ⟨B1,1,none⟩=some (.int .i64 a1))/\V.cell? ⟨B2,0,none⟩=some (.int .u32 t2)/\V.cell? ⟨B2,1,none⟩=some (.int .i64 a2)):=fun V hV=>by
  obtain⟨h1,h2⟩:=BP.out V (hb.trans (hV.mono hb.size));exact⟨h1,h2,⟨(hV.cell MX).trans Kj.1,(hV.cell MX).trans Kj.2⟩,(hV.cell E6).trans Lt.1,(hV.cell E6).trans Lt.2⟩
 obtain⟨DP,A7,-,-⟩:=HV.out wx (Below.refl _ _);clear hb Kj Lt MX E6 BP HS DP;have c1:wx.cell? ⟨w.heap.size,1,none⟩=some (.int .i64 xk):=A7.cell 1 _ (by rw[HC.out];rfl);have d12:=A7.cell 12 _ (by rw[HC.out];rfl);have d13:=A7.cell 13 _ (by rw[HC.out];rfl);have d14:=A7.cell 14 _ (by rw[HC.out];rfl);have d15:=A7.cell 15 _ (by rw[HC.out];rfl);have d16:=A7.cell 16 _ (by rw[HC.out];rfl);have d17:=A7.cell 17 _ (by rw[HC.out];rfl);have d18:=A7.cell 18 _ (by rw[HC.out];rfl);have d19:=A7.cell 19 _ (by rw[HC.out];rfl);have d20:=A7.cell 20 _ (by rw[HC.out];rfl);have d21:=A7.cell 21 _ (by rw[HC.out];rfl)
 have d22:=A7.cell 22 _ (by rw[HC.out];rfl);have d23:=A7.cell 23 _ (by rw[HC.out];rfl);have d24:=A7.cell 24 _ (by rw[HC.out];rfl);have d25:=A7.cell 25 _ (by rw[HC.out];rfl);have d26:=A7.cell 26 _ (by rw[HC.out];rfl);have d27:=A7.cell 27 _ (by rw[HC.out];rfl);have d28:=A7.cell 28 _ (by rw[HC.out];rfl);obtain⟨q,hq⟩:∃q:Nat,q=p1%3:=⟨_,rfl⟩
 have JF:q<3:=by omega
 have e3:Int.tmod (p1:Int) 3=(q:Int):=by rw[J4S (by omega)];omega
 have OM:(q:Int)<3:=by omega
 have V7:(0:Int)<=(q:Int):=by omega
 obtain⟨D,hD⟩:∃D:List Value,D=[.int .i64 akind,.int .i64 an,.int .i64 ak,.int .i64 am,.int .i64 at_,.int .i64 au,.int .i64 as_,.int .i64 ar,.bool aself,.slice ala all alc,.int .i64 ib,.int .i64 io,.int .i64 ir,.int .i64 iff,.bool ig,.int .i64 awb,.int .i64 awo]:=⟨_,rfl⟩
 have MI:(wx.alloc (.cells #[.int .i64 akind,.int .i64 an,.int .i64 ak,.int .i64 am,.int .i64 at_,.int .i64 au,.int .i64 as_,.int .i64 ar,.bool aself,.slice ala all alc,.int .i64 ib,.int .i64 io,.int .i64 ir,.int .i64 iff,.bool ig,.int .i64 awb,.int .i64 awo] 67))=wx.alloc (.cells D.toArray 67):=by rw[hD]
 have HW:Hid (∀V,Below (wx.alloc (.cells D.toArray 67)).heap.size (wx.alloc (.cells D.toArray 67)) V->Below wx.heap.size wx V/\Cells V wx.heap.size 67 D):=fun V hV=>⟨Q0b hV,(Cells.new wx 67 D).same (hV.block _ (by simp))⟩
 obtain⟨W3,N6⟩:∃W3,W3=wx.alloc (.cells D.toArray 67):=⟨_,rfl⟩
 rw[<- N6] at MI HW;have HD:=Q0a hD;clear hD hq A7 N6;go_wp2_with fail;refine(LG.out _).mono ?_;rintro rr w'⟨rfl,rfl⟩;go_upto_region 4 with fail
 try rw[MI]
 clear MI c1 d12 d13 d14 d15 d16 d17 d18 d19 d20 d21 d22 d23 d24 d25 d26 d27 d28 e3;have QY:=Q2g at_;have Wj:=Q2g au;have d4:W3.cell? ⟨wx.heap.size,4,none⟩=some (.int .i64 at_):=(HW.out W3 (Below.refl _ _)).2.cell 4 _ (by rw[HD.out];rfl);have d5:W3.cell? ⟨wx.heap.size,5,none⟩=some (.int .i64 au):=(HW.out W3 (Below.refl _ _)).2.cell 5 _ (by rw[HD.out];rfl);have Ou:=Q0a ga;obtain⟨pt,F6⟩:∃p,p=Q2M at_:=⟨_,rfl⟩
 obtain⟨pu,RE⟩:∃p,p=Q2M au:=⟨_,rfl⟩
 rw[<- F6] at QY;rw[<- RE] at Wj;have Tj:Hid (∀n,Calls prog 56 #[.int .i64 at_] (W3.drewN n) fun r w'=>r=.returned (.int .i64 ((pt:Nat):Int))/\∃m,w'=W3.drewN m):=fun n=>(Q2K _ at_ Ou.out.t).mono fun r w' h=>⟨by rw[F6];exact h.1,n,h.2.symm⟩
 have SU:Hid (∀n,Calls prog 56 #[.int .i64 au] (W3.drewN n) fun r w'=>r=.returned (.int .i64 ((pu:Nat):Int))/\∃m,w'=W3.drewN m):=fun n=>(Q2K _ au Ou.out.u).mono fun r w' h=>⟨by rw[RE];exact h.1,n,h.2.symm⟩
 clear F6 RE ga;obtain⟨T,hT⟩:∃T:Nat,T=1+pt%2:=⟨_,rfl⟩
 obtain⟨U,hU⟩:∃U:Nat,U=1+pu%2:=⟨_,rfl⟩
 have OQ:T<4294967296:=by omega
 have We:U<4294967296:=by omega
 have eT:Int.tmod (pt:Int) 2=((pt%2:Nat):Int):=by rw[J4S (by omega)];omega
 have eU:Int.tmod (pu:Int) 2=((pu%2:Nat):Int):=by rw[J4S (by omega)];omega
 obtain⟨qt,Tw⟩:∃q:Nat,q=pt%2:=⟨_,rfl⟩
 obtain⟨qu,TF⟩:∃q:Nat,q=pu%2:=⟨_,rfl⟩
 rw[<- Tw] at eT hT;rw[<- TF] at eU hU;have b1:(0:Int)<=(qt:Int):=by omega
 have b2:(qt:Int)<2:=by omega
 have b3:(0:Int)<=(qu:Int):=by omega
 have b4:(qu:Int)<2:=by omega
 have fT:(T:Int)=1+(qt:Int):=by omega
 have fU:(U:Int)=1+(qu:Int):=by omega
 have Wu:=Q0a fT;have U5:=Q0a fU;obtain⟨tq,Vj⟩:∃t:Nat,t=1+q:=⟨_,rfl⟩
 have Q5:tq<4294967296:=by omega
 have Wh:Hid ((tq:Int)=1+(q:Int)):=by show(tq:Int)=1+(q:Int);omega
 clear hT hU Tw TF fT fU Vj
 go_cut [8,10,11] from 32 to 43 (fun s a b wc=>s=.int .u32 tq/\a=.int .u32 T/\b=.int .u32 U/\Below W3.heap.size W3 wc)
 case first =>
  clear HW HV HC HD HT
  go_quiet (first|(go_at_call 56;exact Tj.out _)|(go_at_call 56;exact SU.out _))
  go_wp2_with fail;go_meet;rw[Wu.out,U5.out,Wh.out];exact⟨rfl,rfl,rfl,Q0D (Below.refl _ _) _⟩
 obtain⟨rfl,rfl,rfl,Am⟩:=hcut;obtain⟨Ae,G8⟩:=HW.out wc Am;obtain⟨DP,A7,⟨x0,x1⟩,y0,y1⟩:=HV.out wc Ae;have HQ:=HT.out.grown DP;have Fw:Hid (∀V,Below wc.heap.size wc V->Below w.heap.size w V/\Cells V wx.heap.size 67 D):=fun V hV=>by
  have h3:=Am.trans (hV.mono Am.size);obtain⟨h4,h5⟩:=HW.out V h3;exact⟨(HV.out V h4).1,h5⟩
 have Gn:wx.heap.size<wc.heap.size:=G8.lt;have Or:=Q0a Gn;have Pb:Hid (w.heap.size<=wx.heap.size):=(HV.out wx (Below.refl _ _)).1.size;have c0:wc.cell? ⟨w.heap.size,0,none⟩=some (.int .i64 kind):=A7.cell 0 _ (by rw[HC.out];rfl);have Gk:L.length<=200/\W.length<=20/\I.length<=20/\all<=20:=hf;obtain⟨WJ,VE,VV,Xk⟩:=Gk;obtain⟨⟨Id,I8⟩,Lu,PI⟩:=Vt.out;have MU:=hl;obtain⟨lL,lW,lI,lA⟩:=MU;clear HW HV LG FP Tj SU d4 d5 Am Ae hf hl Gn;by_cases e0:kind=0
 ·subst e0;have c7:wc.cell? ⟨w.heap.size,7,none⟩=some (.int .u64 lb):=A7.cell 7 _ (by rw[HC.out];rfl);have c8:wc.cell? ⟨w.heap.size,8,none⟩=some (.slice wa W.length wcp):=A7.cell 8 _ (by rw[HC.out];rfl);have c9:wc.cell? ⟨w.heap.size,9,none⟩=some (.slice ia I.length icp):=A7.cell 9 _ (by rw[HC.out];rfl);have HK:=Q0a ((J2K HQ Id Lu glb wcp icp lW lI gW gI VE VV));have Ds:Hid (∀V,CaT c k ge f N K M w0 V->CaT c k ge f (N+1) K (M+256) w0 V):=fun V h=>h.mono (by omega) (J3h _) (by omega)
  clear HQ A7 G8 HC HD Fw lL lW lI lA gL gW gI;generalize W.length=nW at *
  generalize I.length=nI at *
  go_wp2_with fail;refine HK.out.mono ?_;rintro rv w'⟨⟨er,rfl⟩,hq⟩;have HR:=Q0a (Ds.out _ hq);clear hq HK Ds;go_wp2_with fail
  first|exact⟨rfl,HR.out⟩|(go_end0;exact⟨rfl,HR.out⟩)
 by_cases e1:kind=1
 ·subst e1;have QQ:wc.cell? ⟨w.heap.size,10,none⟩=some (.int .i64 vb):=A7.cell 10 _ (by rw[HC.out];rfl);have XF:wc.cell? ⟨w.heap.size,11,none⟩=some (.int .i64 vo):=A7.cell 11 _ (by rw[HC.out];rfl);have HK:=Q0a (J1U HQ Id Lu vb vo);have Ds:Hid (∀V,CaT c k ge f N K M w0 V->CaT c k ge f (N+1) K (M+256) w0 V):=fun V h=>h.mono (by omega) (J3h _) (by omega)
  clear HQ A7 G8 HC HD Fw lL lW lI lA gL gW gI;go_wp2_with fail;refine HK.out.mono ?_;rintro rv w'⟨⟨er,rfl⟩,hq⟩;have HR:=Q0a (Ds.out _ hq);clear hq HK Ds;go_wp2_with fail
  first|exact⟨rfl,HR.out⟩|(go_end0;exact⟨rfl,HR.out⟩)
 by_cases e2:kind=2
 ·subst e2;have c5:wc.cell? ⟨w.heap.size,5,none⟩=some (.int .u64 xx):=A7.cell 5 _ (by rw[HC.out];rfl);have HK:=Q0a (Z9Q HQ (by omega) Id I8 Lu PI gx);have Ds:Hid (∀V,CaT c k ge f N K (M+256) w0 V->CaT c k ge f (N+1) K (M+256) w0 V):=fun V h=>h.mono (by omega) (J3h _) (by omega)
  clear HQ A7 G8 HC HD Fw lL lW lI lA gL gW gI;go_wp2_with fail;refine HK.out.mono ?_;rintro rv w'⟨⟨er,rfl⟩,hq⟩;have HR:=Q0a (Ds.out _ hq);clear hq HK Ds;go_wp2_with fail
  first|exact⟨rfl,HR.out⟩|(go_end0;exact⟨rfl,HR.out⟩)
 by_cases e3:kind=3∨kind=4
 ·have c3:wc.cell? ⟨w.heap.size,3,none⟩=some (.int .i64 xs):=A7.cell 3 _ (by rw[HC.out];rfl);have c4:wc.cell? ⟨w.heap.size,4,none⟩=some (.int .i64 xo):=A7.cell 4 _ (by rw[HC.out];rfl);have c6:wc.cell? ⟨w.heap.size,6,none⟩=some (.slice la L.length lcp):=A7.cell 6 _ (by rw[HC.out];rfl);have HK:=Q0a (Z9R HQ Q5 xs xo go lcp lL gL WJ);have Ds:Hid (∀V,CaT c k ge f N K M w0 V->CaT c k ge f (N+1) K (M+256) w0 V):=fun V h=>h.mono (by omega) (J3h _) (by omega)
  clear HQ A7 G8 HC HD Fw lL lW lI lA gL gW gI e0 e1 e2;generalize L.length=nL at *
  rcases e3 with rfl|rfl
  ·go_wp2_with fail;refine HK.out.mono ?_;rintro rv w'⟨⟨er,rfl⟩,hq⟩;have HR:=Q0a (Ds.out _ hq);clear hq HK Ds;go_wp2_with fail
   first|exact⟨rfl,HR.out⟩|(go_end0;exact⟨rfl,HR.out⟩)
  ·go_wp2_with fail;refine HK.out.mono ?_;rintro rv w'⟨⟨er,rfl⟩,hq⟩;have HR:=Q0a (Ds.out _ hq);clear hq HK Ds;go_wp2_with fail
   first|exact⟨rfl,HR.out⟩|(go_end0;exact⟨rfl,HR.out⟩)
 have Ds:Hid (∀V,CaT c k ge f N K M w0 V->CaT c k ge f (N+1) K (M+256) w0 V):=fun V h=>h.mono (by omega) (J3h _) (by omega)
 by_cases e5:kind=5
 ·subst e5;have b0:wc.cell? ⟨wx.heap.size,0,none⟩=some (.int .i64 akind):=G8.cell 0 _ (by rw[HD.out];rfl);obtain⟨s,Lz⟩:=Z7t HT.out hN (by omega);have EA:=Q0a fun V (hV:Below wc.heap.size wc V)=>Lz V (Fw.out V hV).1
  have Cq:Hid (Below wc.heap.size wc wc.drew):=(Below.refl _ _).drew;have Cj:Hid (Below wc.heap.size wc wc):=Below.refl _ _;clear Lz A7 e0 e1 e2 e3 lL lW lI gL gW gI;by_cases a1':akind=1
  ·subst a1';have Cx:Hid (∀V,Below wc.heap.size wc V->V.cell? ⟨wx.heap.size,6,none⟩=some (.int .i64 as_)/\V.cell? ⟨wx.heap.size,1,none⟩=some (.int .i64 an)/\V.cell? ⟨wx.heap.size,7,none⟩=some (.int .i64 ar)):=fun V hV=>by
    have h:=(Fw.out V hV).2;exact⟨h.cell 6 _ (by rw[HD.out];rfl),h.cell 1 _ (by rw[HD.out];rfl),h.cell 7 _ (by rw[HD.out];rfl)⟩
   have Fz:=Q2g an;have Xn:Hid (∀V,Calls prog 56 #[.int .i64 an] V fun r w'=>r=.returned (.int .i64 ((Q2M an:Nat):Int))/\V=w'):=fun V=>Q2K V an Ou.out.n
   generalize Q2M an=pn at *
   have Em:(0:Int)<=(pn:Int):=by omega
   have O0:(pn:Int)<5:=by omega
   obtain⟨hn,Xa⟩:∃h:Nat,h=1+pn:=⟨_,rfl⟩
   have MV:hn<4294967296:=by omega
   have en:IntKind.u32.wrap (IntKind.i64.wrap (1+(pn:Int)))=(hn:Int):=by rw[Go.IntWalk.i64_in _ (by omega),Go.IntWalk.u32_in _ (by omega)];omega
   have Vo:Hid (∀V,Below wc.heap.size wc V->Calls prog 41 #[.pointer (some ⟨s,0,none⟩),.int .u32 T,.int .i64 as_,.agg #[.int .u32 (IntKind.u32.wrap (IntKind.i64.wrap (1+(pn:Int)))),.int .i64 ar]] V fun r w'=>(∃e:Int,r=.returned (.int .i64 e))/\CaT c k ge f (N+1) K (M+256) w0 w'/\(∀b,w.heap.size<=b->b<V.heap.size->w'.heap[b]?=V.heap[b]?)):=fun V hV=>by
    rw[en];exact(EA.out V hV).2.1 T hn as_ ar OQ MV
   have Lh:Hid (∀V,Below wc.heap.size wc V->Calls prog 44 #[.pointer (some ⟨c,0,none⟩)] V fun r w'=>r=.returned (.pointer (some ⟨s,0,none⟩))/\V=w'):=fun V hV=>(EA.out V hV).1
   have FV:Hid (∀V,Below wc.heap.size wc V->wx.heap.size<V.heap.size):=fun V hb=>J3j Or.out hb.size
   clear EA HQ G8 HC HD Fw Xa MV en lA HT Ds;go_upto_region 18 with fail
   go_region_held3 (fun V=>V.cell? ⟨wx.heap.size,6,none⟩=some (.int .i64 as_)/\V.cell? ⟨wx.heap.size,1,none⟩=some (.int .i64 an)/\V.cell? ⟨wx.heap.size,7,none⟩=some (.int .i64 ar))
    (first|exact Hb.out|exact Cx.out _ Cq.out|exact Cx.out _ Cj.out)
    (first|(go_at_call 44;refine(Lh.out _ Cq.out).mono ?_;rintro rv w'⟨rfl,rfl⟩)|(go_at_call 56;refine(Xn.out _).mono ?_;rintro rv w'⟨rfl,rfl⟩)|(go_at_call 41;refine(Vo.out _ Cq.out).mono ?_;rintro rv w'⟨⟨er,rfl⟩,hq,Ek⟩;have Cf:=Ek wx.heap.size Pb.out (FV.out _ Cq.out);have Dg:=Cx.out _ Cq.out;have Hb:=Q0a (And.intro ((World.cell?_of_block (w:=_) (a:=⟨wx.heap.size,6,none⟩) Cf).trans Dg.1) (And.intro ((World.cell?_of_block (w:=_) (a:=⟨wx.heap.size,1,none⟩) Cf).trans Dg.2.1) ((World.cell?_of_block (w:=_) (a:=⟨wx.heap.size,7,none⟩) Cf).trans Dg.2.2)));have HR:=Q0a hq;clear hq Ek Cf Dg))
   all_goals (go_wp2_with fail;first|exact⟨rfl,HR.out⟩|(go_end0;exact⟨rfl,HR.out⟩))
  by_cases a2':akind=2
  ·subst a2';have Cx:Hid (∀V,Below wc.heap.size wc V->V.cell? ⟨wx.heap.size,9,none⟩=some (.slice ala all alc)):=fun V hV=>(Fw.out V hV).2.cell 9 _ (by rw[HD.out];rfl)
   have LH:=Ou.out.len.1;have VN:Hid (∀V,Below wc.heap.size wc V->Calls prog 39 #[.pointer (some ⟨s,0,none⟩),.int .u32 T,.int .u32 U,.slice ala all alc] V fun r w'=>(∃e:Int,r=.returned (.int .i64 e))/\CaT c k ge f (N+1) K (M+256) w0 w'/\(∀b,w.heap.size<=b->b<V.heap.size->w'.heap[b]?=V.heap[b]?)):=fun V hV=>(EA.out V hV).2.2.1 T U all alc _ ala OQ We Xk LH lA
   have Lh:Hid (∀V,Below wc.heap.size wc V->Calls prog 44 #[.pointer (some ⟨c,0,none⟩)] V fun r w'=>r=.returned (.pointer (some ⟨s,0,none⟩))/\V=w'):=fun V hV=>(EA.out V hV).1
   have FV:Hid (∀V,Below wc.heap.size wc V->wx.heap.size<V.heap.size):=fun V hb=>J3j Or.out hb.size
   clear EA HQ G8 HC HD Fw lA HT Ds LH;go_upto_region 20 with fail
   go_region_held3 (fun V=>V.cell? ⟨wx.heap.size,9,none⟩=some (.slice ala all alc))
    (first|exact Hb.out|exact Cx.out _ Cq.out|exact Cx.out _ Cj.out)
    (first|(go_at_call 44;refine(Lh.out _ Cq.out).mono ?_;rintro rv w'⟨rfl,rfl⟩)|(go_at_call 39;refine(VN.out _ Cq.out).mono ?_;rintro rv w'⟨⟨er,rfl⟩,hq,Ek⟩;have Cf:=Ek wx.heap.size Pb.out (FV.out _ Cq.out);have Dg:=Cx.out _ Cq.out;have Hb:=Q0a ((World.cell?_of_block (w:=_) (a:=⟨wx.heap.size,9,none⟩) Cf).trans Dg);have HR:=Q0a hq;clear hq Ek Cf Dg))
   all_goals (go_wp2_with fail;first|exact⟨rfl,HR.out⟩|(go_end0;exact⟨rfl,HR.out⟩))
  by_cases a4':akind=4
  ·subst a4';have Cx:Hid (∀V,Below wc.heap.size wc V->V.cell? ⟨wx.heap.size,6,none⟩=some (.int .i64 as_)/\V.cell? ⟨wx.heap.size,7,none⟩=some (.int .i64 ar)/\V.cell? ⟨wx.heap.size,8,none⟩=some (.bool aself)):=fun V hV=>by
    have h:=(Fw.out V hV).2;exact⟨h.cell 6 _ (by rw[HD.out];rfl),h.cell 7 _ (by rw[HD.out];rfl),h.cell 8 _ (by rw[HD.out];rfl)⟩
   have Kh:Hid (∀V,Below wc.heap.size wc V->Calls prog 81 #[.pointer (some ⟨s,0,none⟩),.int .u32 T,.int .i64 as_,.int .i64 ar,.bool aself] V fun r w'=>(∃x y:Value,r=.returned (.tuple #[x,y]))/\CaT c k ge f (N+1) K (M+256) w0 w'/\(∀b,w.heap.size<=b->b<V.heap.size->w'.heap[b]?=V.heap[b]?)):=fun V hV=>(EA.out V hV).2.2.2.1 T as_ ar aself OQ
   have Lh:Hid (∀V,Below wc.heap.size wc V->Calls prog 44 #[.pointer (some ⟨c,0,none⟩)] V fun r w'=>r=.returned (.pointer (some ⟨s,0,none⟩))/\V=w'):=fun V hV=>(EA.out V hV).1
   have FV:Hid (∀V,Below wc.heap.size wc V->wx.heap.size<V.heap.size):=fun V hb=>J3j Or.out hb.size
   clear EA HQ G8 HC HD Fw lA HT Ds;go_upto_region 22 with fail
   go_region_held3 (fun V=>V.cell? ⟨wx.heap.size,6,none⟩=some (.int .i64 as_)/\V.cell? ⟨wx.heap.size,7,none⟩=some (.int .i64 ar)/\V.cell? ⟨wx.heap.size,8,none⟩=some (.bool aself))
    (first|exact Hb.out|exact Cx.out _ Cq.out|exact Cx.out _ Cj.out)
    (first|(go_at_call 44;refine(Lh.out _ Cq.out).mono ?_;rintro rv w'⟨rfl,rfl⟩)|(go_at_call 81;refine(Kh.out _ Cq.out).mono ?_;rintro rv w'⟨⟨xx1,yy1,rfl⟩,hq,Ek⟩;have Cf:=Ek wx.heap.size Pb.out (FV.out _ Cq.out);have Dg:=Cx.out _ Cq.out;have Hb:=Q0a (And.intro ((World.cell?_of_block (w:=_) (a:=⟨wx.heap.size,6,none⟩) Cf).trans Dg.1) (And.intro ((World.cell?_of_block (w:=_) (a:=⟨wx.heap.size,7,none⟩) Cf).trans Dg.2.1) ((World.cell?_of_block (w:=_) (a:=⟨wx.heap.size,8,none⟩) Cf).trans Dg.2.2)));have HR:=Q0a hq;clear hq Ek Cf Dg))
   all_goals (go_wp2_with fail;first|exact⟨rfl,HR.out⟩|(go_end0;exact⟨rfl,HR.out⟩))
  by_cases a9':akind=9
  ·subst a9';have Cx:Hid (∀V,Below wc.heap.size wc V->V.cell? ⟨wx.heap.size,6,none⟩=some (.int .i64 as_)/\V.cell? ⟨wx.heap.size,2,none⟩=some (.int .i64 ak)/\V.cell? ⟨wx.heap.size,3,none⟩=some (.int .i64 am)):=fun V hV=>by
    have h:=(Fw.out V hV).2;exact⟨h.cell 6 _ (by rw[HD.out];rfl),h.cell 2 _ (by rw[HD.out];rfl),h.cell 3 _ (by rw[HD.out];rfl)⟩
   have Wk:Hid (∀V,Below wc.heap.size wc V->Calls prog 40 #[.pointer (some ⟨s,0,none⟩),.int .u32 T,.int .i64 as_,.int .u32 0,.int .i64 ak,.int .i64 am] V fun r w'=>(∃(x:Nat) (e:Int),r=.returned (.tuple #[.int .u32 x,.int .i64 e]))/\CaT c k ge f (N+1) K (M+256) w0 w'/\(∀b,w.heap.size<=b->b<V.heap.size->w'.heap[b]?=V.heap[b]?)):=fun V hV=>(EA.out V hV).2.2.2.2 T as_ ak am OQ
   have Lh:Hid (∀V,Below wc.heap.size wc V->Calls prog 44 #[.pointer (some ⟨c,0,none⟩)] V fun r w'=>r=.returned (.pointer (some ⟨s,0,none⟩))/\V=w'):=fun V hV=>(EA.out V hV).1
   have FV:Hid (∀V,Below wc.heap.size wc V->wx.heap.size<V.heap.size):=fun V hb=>J3j Or.out hb.size
   clear EA HQ G8 HC HD Fw lA HT Ds;go_upto_region 24 with fail
   go_region_held3 (fun V=>V.cell? ⟨wx.heap.size,6,none⟩=some (.int .i64 as_)/\V.cell? ⟨wx.heap.size,2,none⟩=some (.int .i64 ak)/\V.cell? ⟨wx.heap.size,3,none⟩=some (.int .i64 am))
    (first|exact Hb.out|exact Cx.out _ Cq.out|exact Cx.out _ Cj.out)
    (first|(go_at_call 44;refine(Lh.out _ Cq.out).mono ?_;rintro rv w'⟨rfl,rfl⟩)|(go_at_call 40;refine(Wk.out _ Cq.out).mono ?_;rintro rv w'⟨⟨xx1,yy1,rfl⟩,hq,Ek⟩;have Cf:=Ek wx.heap.size Pb.out (FV.out _ Cq.out);have Dg:=Cx.out _ Cq.out;have Hb:=Q0a (And.intro ((World.cell?_of_block (w:=_) (a:=⟨wx.heap.size,6,none⟩) Cf).trans Dg.1) (And.intro ((World.cell?_of_block (w:=_) (a:=⟨wx.heap.size,2,none⟩) Cf).trans Dg.2.1) ((World.cell?_of_block (w:=_) (a:=⟨wx.heap.size,3,none⟩) Cf).trans Dg.2.2)));have HR:=Q0a hq;clear hq Ek Cf Dg))
   all_goals (go_wp2_with fail;first|exact⟨rfl,HR.out⟩|(go_end0;exact⟨rfl,HR.out⟩))
  have f1:(akind==1)=false:=by simpa using a1'
  have f2:(akind==2)=false:=by simpa using a2'
  have f4:(akind==4)=false:=by simpa using a4'
  have f9:(akind==9)=false:=by simpa using a9'
  have HR:=Q0a (Ds.out _ HQ);clear EA HQ G8 HC HD Fw lA HT Ds a1' a2' a4' a9';go_wp2_with fail
  first|exact⟨rfl,HR.out⟩|(go_end0;exact⟨rfl,HR.out⟩)
 have f0:(kind==0)=false:=by simpa using e0
 have f1:(kind==1)=false:=by simpa using e1
 have f2:(kind==2)=false:=by simpa using e2
 have f3:(kind==3)=false:=by simp;omega
 have f4:(kind==4)=false:=by simp;omega
 have f5:(kind==5)=false:=by simpa using e5
 have HR:=Q0a (Ds.out _ HQ);clear HQ G8 A7 HC HD Fw lL lW lI lA gL gW gI HT Ds e0 e1 e2 e3 e5;go_wp2_with fail
 first|exact⟨rfl,HR.out⟩|(go_end0;exact⟨rfl,HR.out⟩)
theorem Q9U{A:Nat->A19}{n:Nat}(h:Q4w A n=true):n<=40/\∀j,j<n->few1 (A j):=by
 unfold Q4w at h;exact of_decide_eq_true h
theorem J1V:(prog.info? 102).map (·.size)=some 29:=by kernel_rfl
theorem Z2n{w:World}{a0:Option Addr}{n:Nat}{A:Nat->A19}(hA:IsA19 w a0 n A){c k ge cap:Nat}{f:Nat->Nat×Nat}{N K:Nat}{M:Int}{w0 wr:World}(DP:Below w.heap.size w w0)(h:CaT c k ge f N K M w0 wr)(hN:N+1<1048576)(hM:M+300<1099511627776){i:Nat}(hi:i<n)(hf:few1 (A i)) :
  ∃(g o:Nat) (cs:List Value),a0=some ⟨g,o,none⟩/\wr.rangeAt g (o+i*29) cs/\(prog.info? 102).map (·.size)=some cs.length/\Calls prog 48 #[.pointer (some ⟨c,0,none⟩),.slice (some ⟨ge,0,none⟩) 5 cap,.agg cs.toArray] wr fun r w'=>r=.returned (.tuple #[])/\CaT c k ge f (N+1) K (M+256) w0 w':=by
 obtain⟨g,o,e,hg,hc,Gt,hl⟩:=hA i hi;have hb:=DP.trans (h.below.mono DP.size);exact⟨g,o,(A i).cells,e,fun j v hv=>(World.cell?_of_block (w:=w) (hb.block g hg)).trans (hc j v hv),by rw[A19.len];exact J1V,Z3Y (cap:=cap) h hN hM (A i) Gt (hl.below DP) hf⟩
def J1W(Z:SP)(t:Nat)(a:Int)(w:World)(r:Ending)(w':World):Prop:=
 ∃p,BlkAt Z t a p/\r=.returned (.tuple #[.agg #[.int .i64 (winV Z.S.P.a.mem p.at_).base,.int .i64 (winV Z.S.P.a.mem p.at_).order],.int .i64 0])/\Below w.heap.size w w'
theorem Z7u{w:World}{Z:SP}{fr:List Nat}{N K:Nat}{M:Int}(ok:Z.Ok fr N K M)(h:Sep w Z.hl){c k:Nat}(hc:CarC Z c k w){t:Nat}(ht:t<4294967296)(a:Int)(ha:a<9223372036854775808)(Cu:blkE Z t a=0) :
  Calls prog 53 #[.pointer (some ⟨c,0,none⟩),.agg #[.int .u32 t,.int .i64 a]] w (J1W Z t a w):=by
 have b1:Below w.heap.size w (w.alloc (.cells #[.int .u32 t,.int .i64 a] 116)):=(Below.refl _ _).alloc (J3h _) _;have b2:Below w.heap.size w ((w.alloc (.cells #[.int .u32 t,.int .i64 a] 116)).alloc (.cells #[.int .i64 0,.int .i64 0] 65)):=b1.alloc b1.size _;have h2:=h.grown b2;have kb:=Q2w ok h2.sep (hc.step rfl h2) ht a ha;have c1:=(Cells.new w 116 [.int .u32 t,.int .i64 a]).alloc (.cells #[.int .i64 0,.int .i64 0] 65);have c2:=Cells.new (w.alloc (.cells #[.int .u32 t,.int .i64 a] 116)) 65 [.int .i64 0,.int .i64 0];have hz:(w.alloc (.cells #[.int .u32 t,.int .i64 a] 116)).heap.size=w.heap.size+1:=by simp
 rw[hz] at c2;have e0:=c1.cell 0 _ rfl;have e1:=c1.cell 1 _ rfl;have HP:Hid (∀V p g,Below ((w.alloc (.cells #[.int .u32 t,.int .i64 a] 116)).alloc (.cells #[.int .i64 0,.int .i64 0] 65)).heap.size ((w.alloc (.cells #[.int .u32 t,.int .i64 a] 116)).alloc (.cells #[.int .i64 0,.int .i64 0] 65)) V->p∈Z.S.l->p.is=true->p.kind=3->a=(p.at_:Int)->BlkC Z p g V ->
   Calls prog 117 #[.pointer (some ⟨g,0,none⟩)] V fun r w'=>∃vb vo:Int,r=.returned (.agg #[.int .i64 vb,.int .i64 vo])/\Cells w' (w.heap.size+1) 65 [.int .i64 0,.int .i64 0]/\∀v0 v1,J1W Z t a w (.returned (.tuple #[.agg #[.int .i64 vb,.int .i64 vo],.int .i64 0])) ((w'.setCell ⟨w.heap.size+1,0,none⟩ v0).setCell ⟨w.heap.size+1,1,none⟩ v1)):=fun V p g hV hp hi hk BG hg=>by
  have hb:=Q0b (Q0b hV);have s1:=h.grown hb;have c3:=c2.same (hV.block _ c2.lt);refine(Q9N ok s1.sep hp hi hk hg).mono ?_;rintro r w'⟨rfl,Al⟩;exact⟨_,_,rfl,c3.same (Al.block _ c3.lt),fun v0 v1=>⟨p,⟨Cu,hp,hi,hk,BG⟩,rfl,((hb.trans (Al.mono hb.size)).setCell (J7p _) _).setCell (J7p _) _⟩⟩
 unfold BlkR at kb;generalize J1W Z t a w=Q at *
 generalize blkE Z t a=E at *
 subst Cu;clear b1 b2 h2 ok h hc ht c1 c2 hz;go_enter func53,ntmps53;go_wp2_with fail;refine kb.mono ?_;rintro r w2⟨Ae,hr⟩;rcases hr with ⟨he,rfl⟩|⟨he,p,g,hp,hi,hk,BG,rfl,hg⟩
 ·exact absurd rfl he
 ·have kp:=Q0a (HP.out w2 p g Ae hp hi hk BG hg);clear Ae kb HP hp hi hk BG hg;go_wp2_with fail;refine kp.out.mono ?_;rintro r w3⟨vb,vo,rfl,cz,hq⟩;have HR:=Q0a hq;have g0:=cz.cell 0 _ rfl;have g1:=cz.cell 1 _ rfl;have f0:=cz.free 0;have f1:=cz.free 1;have Aa:=cz.lt;clear cz hq kp;go_wp2_with fail;refine bodyPost_ret (v:=.tuple #[.agg #[.int .i64 vb,.int .i64 vo],.int .i64 0]) (by simp[results,results53,go_sem,g0,g1]) rfl (HR.out _ _)
theorem Z3Z{w:World}{Z:SP}{fr:List Nat}{N K:Nat}{M:Int}(ok:Z.Ok fr N K M)(h:Sep w Z.hl){c k:Nat}(hc:CarC Z c k w){t:Nat}(ht:t<4294967296)(a:Int)(ha:a<9223372036854775808)(Cu:blkE Z t a=0) :
  Calls prog 52 #[.pointer (some ⟨c,0,none⟩),.agg #[.int .u32 t,.int .i64 a]] w fun r w'=>∃p v,BlkAt Z t a p/\r=.returned (.tuple #[v,.int .i64 0])/\MsgIs (msgV Z.S.P.a.mem p.at_) w (.returned v) w':=by
 refine(Q9O ok h hc ht a ha).mono ?_;rintro r w' (⟨h1,_⟩|h1)
 ·exact absurd Cu h1
 ·exact h1
theorem end3(f:Nat->Nat×Nat){k:Nat}(hk:k<3):tkE f k=1+k%2/\atE f k=(f (2+k)).1:=by
 have:k=0∨k=1∨k=2:=by omega
 rcases this with rfl|rfl|rfl <;> exact⟨rfl,rfl⟩
theorem J3c{k:Nat}(hk:k<3):Q0z (2+k)=3:=by
 have:k=0∨k=1∨k=2:=by omega
 rcases this with rfl|rfl|rfl <;> rfl
section
variable {Z Z':SP} {fr:List Nat} {N K:Nat} {M:Int} {f:Nat->Nat×Nat} {w w':World}
theorem CaJ.thr(j:CaJ Z f){k:Nat}(hk:k<3):Z.S.l[3+k]?=some (plB f (2+k))/\plB f (2+k)∈Z.S.l/\(plB f (2+k)).is=true/\(plB f (2+k)).kind=3:=by
 have h:=j.l (2+k) (by omega);rw[show 2+k+1=3+k by omega] at h;exact⟨h,J5p h,Pl.is_iff.2 (.inl rfl),J3c hk⟩
theorem CaJ.task(j:CaJ Z f){k:Nat}(_hk:k<3):∃p,pget Z.S.l 1 (1+k%2)=some p/\p.kind=2:=by
 have:k%2=0∨k%2=1:=by omega
 rcases this with h|h
 ·rw[h];exact⟨_,j.at' (i:=0) (by omega),rfl⟩
 ·rw[h];exact⟨_,j.at' (i:=1) (by omega),rfl⟩
theorem CaJ.blk(ok:Z.Ok fr N K M)(j:CaJ Z f){k:Nat}(hk:k<3):blkE Z (tkE f k) ((atE f k:Nat):Int)=0:=by
 obtain⟨e1,e2⟩:=end3 f hk;obtain⟨p,hp,UM⟩:=j.task hk;obtain⟨_,hm,hi,G4⟩:=j.thr hk;have hh:=J0o ok hm hi G4;rw[e1,e2];unfold blkE;rw[hp];simp only;rw[if_pos UM];have e:Z.S.P.has 3 (((f (2+k)).1:Nat):Int)=true:=hh;rw[if_pos e]
theorem BlkAt.eq{t a:Nat}{p:Pl}(h:BlkAt Z t ((a:Nat):Int) p):p.at_=a:=by have:=h.2.2.2.2;omega
theorem Z7v{rv:RV}{n n' cap:Nat}{a:Option Addr}{H:HL}(h:lvOf rv n=.slice a n' cap)(st:Step [] H w w')(hk:∀g cp,rv=some (g,cp)->g∈keys H):∀b,a=some b->w.heap.size<=b.block:=fun b hb=>by
 cases rv with
 | none =>
  have h':Value.slice none 0 0=.slice a n' cap:=h;cases h';cases hb
 | some p =>
  obtain⟨g,cp⟩:=p;have h':Value.slice (some ⟨g,0,none⟩) n cp=.slice a n' cap:=h;cases h';cases hb;rcases st.new g (hk g _ rfl) with h|h
  ·cases h
  ·exact h
theorem J2L(ok:Z.Ok fr N K M)(j:CaJ Z f)(h:Sep w Z.hl){c kk:Nat}(hc:CarC Z c kk w){k:Nat}(hk:k<3)(h6:atE f k<=65536) :
  Calls prog 52 #[.pointer (some ⟨c,0,none⟩),.agg #[.int .u32 (tkE f k:Int),.int .i64 (atE f k:Int)]] w fun r w'=>∃(a x:Option Addr) (ca cx:Nat),r=.returned (.tuple #[.agg #[.int .u64 ((msgV Z.S.P.a.mem (atE f k)).label:Int),.slice a (msgV Z.S.P.a.mem (atE f k)).ws.length ca,.slice x (msgV Z.S.P.a.mem (atE f k)).its.length cx],.int .i64 0])/\Below w.heap.size w w'/\(IsU w' a (msgV Z.S.P.a.mem (atE f k)).ws/\IsI w' x (msgV Z.S.P.a.mem (atE f k)).its)/\(∀b,a=some b->w.heap.size<=b.block)/\∀b,x=some b->w.heap.size<=b.block:=by
 refine(Z3Z ok h hc (by rw[(end3 f hk).1];omega) (atE f k:Int) (by omega) (j.blk ok hk)).mono ?_;rintro r w'⟨p,v,hp,rfl,hm⟩;rw[hp.eq] at hm;obtain⟨rw_,ri,e,o1,o2,st⟩:=hm;obtain⟨a,ca,e1,h1⟩:=Z7f o1 st;obtain⟨x,cx,e2,h2⟩:=Z7g o2 st;have n1:=Z7v e1 st fun g cp h=>by subst h;simp[rowH]
 have n2:=Z7v e2 st fun g cp h=>by subst h;simp[rowH]
 rw[e1,e2] at e;cases e;exact⟨a,x,ca,cx,rfl,st.fresh,⟨h1,h2⟩,n1,n2⟩
theorem J2M(ok:Z.Ok fr N K M)(j:CaJ Z f)(h:Sep w Z.hl){c kk:Nat}(hc:CarC Z c kk w){k:Nat}(hk:k<3)(h6:atE f k<=65536) :
  Calls prog 53 #[.pointer (some ⟨c,0,none⟩),.agg #[.int .u32 (tkE f k:Int),.int .i64 (atE f k:Int)]] w (Told w (.tuple #[.agg #[.int .i64 (winV Z.S.P.a.mem (atE f k)).base,.int .i64 (winV Z.S.P.a.mem (atE f k)).order],.int .i64 0])):=by
 refine(Z7u ok h hc (by rw[(end3 f hk).1];omega) (atE f k:Int) (by omega) (j.blk ok hk)).mono ?_;rintro r w'⟨p,hp,rfl,hb⟩;rw[hp.eq];exact⟨rfl,hb⟩
end
def Q8u:List (String×DataW Unit):=[("math/bits.deBruijn32tab", Rows.laid_math_bits_deBruijn32tab),("math/bits.deBruijn64tab", Rows.laid_math_bits_deBruijn64tab),("quartermaster/pool.costs", Rows.laid_quartermaster_pool_costs)]
def J3d:List Int:=[0,1,28,2,29,14,24,3,30,22,20,15,25,17,4,8,31,27,13,23,21,19,16,7,26,12,18,6,11,5,10,9]
theorem g32:prog.globalNamed "math/bits.deBruijn32tab" = some 2:=by kernel_rfl
theorem t32:(prog.globals[2]?).map (·.type)=some 317:=by kernel_rfl
theorem g64:prog.globalNamed "math/bits.deBruijn64tab" = some 1:=by kernel_rfl
theorem J2N:prog.globalNamed "quartermaster/pool.costs" = some 0:=by kernel_rfl
theorem t64:(prog.globals[1]?).map (·.type)=some 296:=by kernel_rfl
theorem J3e:(prog.globals[0]?).map (·.type)=some 138:=by kernel_rfl
theorem Q6B{W:World}(h:laidMetH prog Q8u W):Env W:=by
 rw [MakeChecks.laidMetH_plain _ _ _ (by kernel_rfl)] at h;have h1:laidMet prog (("math/bits.deBruijn32tab", Lib.tabData .u8 J3d)::[("math/bits.deBruijn64tab", Rows.laid_math_bits_deBruijn64tab),("quartermaster/pool.costs", Rows.laid_quartermaster_pool_costs)]) W:=h
 have hA:=Lib.tabIs_of_head g32 t32 underlying317 underlying5 (by kernel_rfl) (by kernel_rfl) h1;have h2:laidMet prog (("math/bits.deBruijn64tab", Lib.tabData .u8 (dbt.map fun (n:Nat)=>(n:Int)))::[("quartermaster/pool.costs", Rows.laid_quartermaster_pool_costs)]) W:=laidMet.tail h1
 have h3:laidMet prog (("quartermaster/pool.costs", Lib.tabData .i64 Z4k)::[]) W:=laidMet.tail h2
 have hB:=Lib.tabIs_of_head g64 t64 underlying296 underlying5 (by kernel_rfl) (by kernel_rfl) h2;have hC:=Lib.tabIs_of_head J2N J3e underlying138 underlying3 (by kernel_rfl) (by kernel_rfl) h3;have cB:TabB W:=by
  intro j v hv;have hj:=(J3y.1 hv).1;have:=hB.cell g64 j (by simpa using hj);rw[this];congr 2;simp[List.getD,hv]
 have cC:TabC W:=by
  intro j v hv;have hj:=(J3y.1 hv).1;have:=hC.cell J2N j (by simpa using hj);rw[this];congr 2;simp[List.getD,hv]
 refine⟨?_,cB,cC⟩;have c0:=World.block_lt_of_cell? W ⟨1,0,none⟩ (cB 0 0 rfl);have c1:=World.block_lt_of_cell? W ⟨0,0,none⟩ (cC 0 0 rfl);have c2:=World.block_lt_of_cell? W ⟨2,0,none⟩ (hA.cell g32 0 (by decide));have Pc:1<W.heap.size:=c0;have TX:0<W.heap.size:=c1;have XH:2<W.heap.size:=c2;unfold GB;omega
end Go.Proofs.YtfidemmgofcnmaaGreatDoor
