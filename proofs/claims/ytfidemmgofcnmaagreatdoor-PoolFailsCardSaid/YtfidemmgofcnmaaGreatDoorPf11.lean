/- PoolFails returns true at every input. No condition. Part of its proof. -/
import Derived.Test.YtfidemmgofcnmaaGreatDoorPf10
import Derived.Deep.CutRange
import Derived.ProofKit
import Derived.Deep.Slices
import Derived.OpenShut
import Derived.Lib.LaidTab
import Derived.LaidMore
import Derived.MakeChecks
import Derived.Stop.LaidErr
import Derived.Carry
set_option maxHeartbeats 16000000
set_option maxRecDepth 100000
set_option linter.unusedVariables false
namespace Go.Proofs.YtfidemmgofcnmaaGreatDoor
open Go.RowKit Go.Proofs.Tryz
theorem Q6R{pp i:Nat}{w w3:World}(h:PfAt pp (1+i) w w3):PfAt pp (1+(i+1)) w w3:=by
 obtain⟨P,q1,q2,q3,q4,q5⟩:=h;exact⟨P,q1,q2,by omega,q4,q5⟩
theorem Q2S{w:World}(AR:Env w)(li:Nat)(hli:li<65536)(a0:Option Addr)(len Aa:Nat)(A:Nat->A4)(hA:IsA4 w a0 len A)(ff:Int)(hff:-9223372036854775808<=ff/\ff<=9223372036854775807)(cc:Int)(BB:-9223372036854775808<=cc/\cc<=9223372036854775807)(aa:Int)(haa:-9223372036854775808<=aa/\aa<=9223372036854775807) :
  Calls prog 3 #[.int .u16 li,.slice a0 len Aa,.int .i64 ff,.int .i64 cc,.int .i64 aa] w (Told w (.bool true)):=by
 have Cg:=Q6Q AR;have Gs:Hid (∀w1,Below w.heap.size w w1->_):=fun w1 hb=>Q9I AR hb li hli
 have Aq:Hid (∀V,Below w.heap.size w V->Calls prog 20 #[.int .i64 cc] V fun r w'=>r=.returned (.int .i64 ((Q0g cc:Nat):Int))/\V=w'):=fun V hb=>Q0s (AR.below hb) cc
 have HA:=Q0a hA;have J2:Hid (aa<9223372036854775808):=by refine Q0a ?_;omega
 have F7:(0:Int)<=(li:Int):=by omega
 have F4:(li:Int)<65536:=by omega
 clear AR hA hff BB haa hli;go_enter func3,ntmps3;go_wp2_with fail;refine Cg.mono ?_;rintro r w1⟨rfl,B9⟩;have Dk:=Q0a (Gs.out w1 B9);have F2:=Q0a B9;clear B9 Cg Gs;by_cases Do:100<len
 ·have HR:Hid (Told w (.bool true) (.returned (.bool true)) w1):=⟨rfl,F2.out⟩
  have DX:(100:Int)<(len:Int):=by omega
  have hd:decide ((100:Int)<(len:Int))=true:=decide_eq_true DX;have Ds:decide (100<len)=true:=decide_eq_true Do;clear Dk;go_wp2_with fail
  (try go_ret);exact HR.out
 have Ad:(len:Int)<=100:=by omega
 have hd:decide ((100:Int)<(len:Int))=false:=decide_eq_false (by omega);have Ds:decide (100<len)=false:=decide_eq_false Do;clear Do;go_wp2_with fail;refine Dk.out.mono ?_;rintro r w2⟨pp,rfl,Cc⟩;have D1:=Q0a Cc;clear Cc Dk F7 F4;go_wp2_with fail
 go_loopg [12] len (fun gk iv wr=>∃(i:Nat),iv=.int .i64 i/\i+gk=len/\PfAt pp (1+i) w wr)
 case atStart=>exact⟨0,rfl,Z2e _,D1.out⟩
 case round =>
  clear D1;obtain⟨i,rfl,Fw,Ah⟩:=hrel;have DH:=Q0a Fw;have DS:=Q0a Ah;clear Ah;by_cases Ae:i<len
  ·obtain⟨g,off,rfl,Dc,b0,b1,b2,b3,Jk⟩:=(HA.out.below DS.out.fresh) i Ae;have Dv:PfAt pp (1+i) w wr.drew:=DS.out.grown (Below.refl _ _).drew;obtain⟨t,kq,kc⟩:=Q7Y Dv (by omega) (A i).f (A i).n;have kg:=Q9G Dv (A i).f (A i).c;have B3:Hid (∀V,Below w.heap.size w V->V.cell? ⟨g,off+i*4+1,none⟩=some (.int .i64 (A i).f)/\V.cell? ⟨g,off+i*4+2,none⟩=some (.int .i64 (A i).c)/\V.cell? ⟨g,off+i*4+3,none⟩=some (.int .i64 (A i).n)):=fun V hV=>by
    obtain⟨g',o',e,_,_,q1,q2,q3,_⟩:=(HA.out.below hV) i Ae;cases e;exact⟨q1,q2,q3⟩
   have d1:wr.drew.cell? ⟨g,off+i*4+1,none⟩=some (.int .i64 (A i).f):=b1;have d2:wr.drew.cell? ⟨g,off+i*4+2,none⟩=some (.int .i64 (A i).c):=b2;have d3:wr.drew.cell? ⟨g,off+i*4+3,none⟩=some (.int .i64 (A i).n):=b3;generalize (A i).k=ak at *
   generalize (A i).f=af at *
   generalize (A i).c=ac at *
   generalize (A i).n=an at *
   have G8:=Q0a kq;have Ib:=Q0a kc;have Dt:=Q0a kg;have JR:(i:Int)<(len:Int):=by omega
   have AU:(0:Int)<=(i:Int):=by omega
   clear Fw kq kc kg Jk DS;by_cases h3:ak=3
   ·subst h3;clear Dt Dv;go_wp2_with fail
    go_region_held3 (fun V=>V.cell? ⟨g,off+i*4+1,none⟩=some (.int .i64 af)/\V.cell? ⟨g,off+i*4+3,none⟩=some (.int .i64 an)) (first|exact⟨b1,b3⟩|exact⟨d1,d3⟩|exact x3) (first|(go_at_call 13;refine G8.out.mono ?_;rintro r w'⟨rfl,rfl⟩)|(go_at_call 14;refine Ib.out.mono ?_;rintro r w3⟨⟨x,e,rfl⟩,Bc⟩;have Ga:=Q0a Bc;have x3:=(⟨(B3.out _ Bc.fresh).1,(B3.out _ Bc.fresh).2.2⟩:_/\_);clear Bc))
    all_goals
     go_wp2_with fail;go_roundg (len-(i+1))
     case measure=>have:=DH.out;omega
     case rel=>exact⟨i+1,by go_num,by have:=DH.out;omega,by rw[show 1+(i+1)=1+i+1 by omega];exact Ga.out⟩
   ·have JT:(ak==3)=false:=by simp[h3]
    clear G8 Ib Dv;go_wp2_with fail
    go_region_held3 (fun V=>V.cell? ⟨g,off+i*4+1,none⟩=some (.int .i64 af)/\V.cell? ⟨g,off+i*4+2,none⟩=some (.int .i64 ac)) (first|exact⟨b1,b2⟩|exact⟨d1,d2⟩|exact x3) (first|(go_at_call 15;refine Dt.out.mono ?_;rintro r w3⟨⟨x,e,rfl⟩,Bc⟩;have Ga:=Q0a (Q6R Bc);have x3:=(⟨(B3.out _ Bc.fresh).1,(B3.out _ Bc.fresh).2.1⟩:_/\_);clear Bc))
    all_goals
     go_wp2_with fail;go_roundg (len-(i+1))
     case measure=>have:=DH.out;omega
     case rel=>exact⟨i+1,by go_num,by have:=DH.out;omega,Ga.out⟩
  ·obtain rfl:i=len:=by omega
   obtain⟨P,ok,rfl,-,hl,st⟩:=DS.out;obtain⟨m1,m2⟩:=Q7Z ok hl st;have Cj:=Q0a ok;have HI:=Q0a m2;have Ia:Hid (Below w.heap.size w wr):=st.fresh;have AK:(idsQ P.q.E).length<=32:=by rw[Q4F];exact hl
   clear DS ok m2 hl st Fw DH HA F2;generalize A9:idsQ P.q.E=ids at *
   clear A9;generalize hnl:ids.length=nl at *
   have Eh:=Q0a hnl;have FC:(nl:Int)<=32:=by omega
   have Ex:Hid (nl<=32):=AK;clear hnl AK;go_wp2_with fail;refine m1.mono ?_;rintro r w'⟨rfl,rfl⟩;clear m1;go_wp2_with fail;refine HI.out.mono ?_;rintro r w3⟨fa,fc,F,rfl,hF,kq,ki⟩;have GI:=Q0a hF;have Gz:=Q0a ki;clear hF ki HI;generalize hnF:F.length=nF at *
   have GP:=Q0a hnF;clear hnF;go_wp2_with fail;refine kq.mono ?_;rintro r w'⟨rfl,rfl⟩;clear kq;go_wp2_with fail;refine Gz.out.mono ?_;rintro r w4⟨ia,ic,rfl,Cy⟩;have GN:Hid (∃rv,rvOk rv 0/\PfS P (rowH rv 3 1 (((ids.take 0).map (useQ P.q.E)).map encQ)) ids ia F fa w w4/\lvOf rv 0=.slice none 0 0):=⟨none,rfl,by simpa[rowH] using Cy,rfl⟩
   clear Cy Gz;go_wp2_with fail
   go_loopg [15,16] nl (fun gk ov v wi=>∃(k:Nat) (rv:RV),v=.int .i64 k/\k+gk=nl/\ov=lvOf rv k/\rvOk rv k/\PfS P (rowH rv 3 1 (((ids.take k).map (useQ P.q.E)).map encQ)) ids ia F fa w wi)
   case atStart =>
    obtain⟨rv,h1,h2,h3⟩:=GN.out;exact⟨0,rv,rfl,Z2e _,h3.symm,h1,h2⟩
   case round =>
    clear GN;obtain⟨k,rv,rfl,BK,rfl,Am,Cy⟩:=hrel;have Dt:=Q0a BK;by_cases EI:k<nl
    ·obtain⟨x,hx⟩:∃y,ids[k]?=some y:=⟨_,Z1R (by rw[Eh.out];exact EI)⟩
     obtain⟨gi,rfl,_,_,Hl⟩:=Cy.ia k (encQ x) (by rw[Z1o,hx];rfl);have Ez:=Cy.grown (Below.refl _ _).drew;have CC:=Q0R Ez.sep;have D0:=Q8m Cj.out Ez x;have IU:=Q0a Ez;have Fy:wr.drew.cell? ⟨gi,k,none⟩=some (.int .i64 x):=Hl;have Ht:Hid (∀V,Below wr.drew.heap.size wr.drew V->V.cell? ⟨gi,k,none⟩=some (.int .i64 x)):=fun V hV=>by
      obtain⟨g',e,_,_,q⟩:=(Ez.grown hV).ia k (encQ x) (by rw[Z1o,hx];rfl);cases e;exact q
     have HX:=Q0a hx;have FS:=Q0a Am;have AY:(k:Int)<(nl:Int):=by omega
     clear Cy Ez hx BK Am;unfold ptr at CC;generalize Ci:lvOf rv k=ov1 at *
     have Dz:=Q0a Ci;clear Ci;have F9:Hid (∀w8,Below wr.drew.heap.size wr.drew w8->∃rv2 va vn vc w9,(Builtin.append_ #[38,38] 38 #[ov1,.slice (some ⟨w8.heap.size,0,none⟩) 1 1]).run prog (w8.alloc (.cells #[.int .i64 (useQ P.q.E x)] 3))=.ok (.slice va vn vc) w9/\lvOf rv2 (k+1)=.slice va vn vc/\rvOk rv2 (k+1)/\PfS P (rowH rv2 3 1 (((ids.take (k+1)).map (useQ P.q.E)).map encQ)) ids (some ⟨gi,0,none⟩) F fa w w9/\w9.cell? ⟨gi,k,none⟩=some (.int .i64 x)):=fun w8 Ca=>by
      obtain⟨rv2,w9,BC,Cq,BS⟩:=Q9H (IU.out.grown Ca) FS.out HX.out (by have:=Eh.out;have:=Ex.out;omega);rw[Dz.out] at BC;obtain⟨va,vn,vc,hV⟩:∃a n c,lvOf rv2 (k+1)=.slice a n c:=by
       cases rv2 with
       | none=>exact⟨_,_,_,rfl⟩
       | some q=>exact⟨_,_,_,rfl⟩
      rw[hV] at BC;obtain⟨g',e,_,_,q⟩:=BS.ia k (encQ x) (by rw[Z1o,HX.out];rfl);cases e;exact⟨rv2,va,vn,vc,w9,BC,hV,Cq,BS,q⟩
     have EW:=Q0a CC;have EG:=Q0a D0;clear CC D0;generalize useQ P.q.E x=ux at *
     go_wp2_with fail
     go_region_held3 (fun V=>V.cell? ⟨gi,k,none⟩=some (.int .i64 x)) (first|exact Hl|exact Fy|exact x8|exact x8a|exact x9) (first|(go_at_call 13;refine EW.out.mono ?_;rintro r w'⟨rfl,rfl⟩)|(go_at_call 19;refine EG.out.mono ?_;rintro r w8⟨rfl,Ca⟩;have x8:=Ht.out w8 Ca;have x8a:=Ht.out _ (Ca.alloc Ca.size (.cells #[.int .i64 ux] 3));obtain⟨rv2,va,vn,vc,w9,BC,hV,Cq,BS,x9⟩:=F9.out w8 Ca;have Jg:=Q0a BC;have I2:=Q0a hV;have DD:=Q0a Cq;have Jt:=Q0a BS;clear BC hV Cq BS Ca)|(refine Q0X rfl (.tmp 79) (.tmp 87) 38 38 rfl _ _ (by simp[Act.eval]) (by simp[Act.eval]) Jg.out ?_))
     all_goals
      go_wp2_with fail;go_roundg (nl-(k+1))
      case measure=>have:=Dt.out;omega
      case rel=>exact⟨k+1,rv2,by go_num,by have:=Dt.out;omega,I2.out.symm,DD.out,Jt.out⟩
    ·obtain rfl:k=nl:=by have:=Dt.out;omega
     rw[Z1z (by rw[Eh.out];exact Q9Y _)] at Cy;have Du:=Q9e Cj.out Cy ff cc;have FS:=Q0a Am;have FR:=Q0a Du;clear Du Cy BK Am;generalize Ci:lvOf rv k=ov1 at *
     have Dz:=Q0a Ci;clear Ci;go_wp2_with fail;refine FR.out.mono ?_;rintro r w8 (⟨a,n,P',hk,h1,h7,rfl,g,D3⟩|⟨er,GV,rfl,D3⟩)
     ·subst hk;have BJ:=Q0a (Q9f Cj.out h1 h7 g D3);have kc:=Aq.out w8 D3.st.fresh;rw[(Q1x h1 h7).1] at kc;have Fo:=(Q1x h1 h7).2;have GS:=(Q1w h1 h7).2;clear g D3 FR Aq h1 h7;generalize Q0c n=cn at *
      have Ew:(0:Int)<(cn:Int):=by omega
      have Fy:decide ((0:Int)<(cn:Int))=true:=decide_eq_true Ew;have FK:decide (0<cn)=true:=decide_eq_true (by omega);go_wp2_with fail;refine kc.mono ?_;rintro r w'⟨rfl,rfl⟩;clear kc;go_wp2_with fail;refine BJ.out.mono ?_;rintro r w9⟨rfl,P2,ok2,e1,e2,e3,e4,El⟩;obtain⟨t1,t2⟩:=Q6M ok2 e1 e2 e3 e4 GI.out El;have Ei:=Q0a t2;clear BJ ok2 e1 e2 e3 e4 El t2;go_wp2_with fail;refine t1.mono ?_;rintro r w'⟨rfl,rfl⟩;clear t1;go_wp2_with fail;refine Ei.out.mono ?_;rintro r w10⟨ba,bc,rfl,E6⟩;have ks:=E6 fc;rw[GP.out] at ks ⊢;clear E6 Ei;go_wp2_with fail;refine ks.mono ?_;rintro r w11⟨rfl,Bh⟩
      have HR:Hid (Told w (.bool true) (.returned (.bool true)) w11):=⟨rfl,Bh⟩
      clear ks Bh;go_wp2_with fail
      (try go_ret);exact HR.out
     ·have IS:(er==0)=false:=by simp[GV]
      have BJ:=Q0a (Q9g Cj.out D3 ff cc aa J2.out);clear FR GV D3;go_wp2_with fail;refine BJ.out.mono ?_;rintro r w9 (⟨rfl,hc,Dy⟩|⟨er2,D9,rfl,El⟩)
      ·have kc:=Aq.out w9 Dy;generalize Q0g cc=cn at *
       have Ew:(0:Int)<(cn:Int):=by omega
       have Fy:decide ((0:Int)<(cn:Int))=true:=decide_eq_true Ew;have FK:decide (0<cn)=true:=decide_eq_true (by omega);have HR:Hid (Told w (.bool true) (.returned (.bool true)) w9):=⟨rfl,Dy⟩
       clear hc Dy BJ;go_wp2_with fail;refine kc.mono ?_;rintro r w'⟨rfl,rfl⟩;clear kc;go_wp2_with fail
       (try go_ret);exact HR.out
      ·have Jj:(er2==0)=false:=by simp[D9]
       have Hq:=Q0a El;clear BJ D9 El Aq;go_wp2_with fail;obtain⟨wq,Je⟩:∃wl,wl=w9:=⟨_,rfl⟩
       subst Je
       go_loopg [19] k (fun gk v wi=>∃c:Nat,v=.int .i64 c/\c+gk=k/\PfS P (rowH rv 3 1 ((ids.map (useQ P.q.E)).map encQ)) ids ia F fa w wi)
       case atStart=>exact⟨0,rfl,Z2e _,Hq.out⟩
       case round =>
        clear Hq;obtain⟨c,rfl,GK,hs⟩:=hrel;have FL:=Q0a GK;have HS:=Q0a hs;clear GK hs;by_cases AT:c<k
        ·obtain⟨x,hx⟩:∃y,ids[c]?=some y:=⟨_,Z1R (by rw[Eh.out];exact AT)⟩
         obtain⟨gi,gu,cu,rfl,e2,JN,hV⟩:=Q9h Cj.out FS.out Eh.out hx HS.out;rw[Dz.out] at e2;subst e2;have HV:=Q0a hV;have EH:(c:Int)<(k:Int):=by omega
         have Jl:(0:Int)<=(c:Int):=by omega
         have Ay:(c:Int)<32:=by have:=Ex.out;omega
         have CW:Hid (Below wr.heap.size wr wr.drew):=(Below.refl _ _).drew;have EC:Hid (Below wr.heap.size wr wr):=Below.refl _ _;clear hx hV;generalize useQ P.q.E x=ux at *
         have JD:(ux != ux)=false:=by simp
         clear EI FC;go_wp2_with fail
         go_region_held3 (fun V=>V.cell? ⟨gi,c,none⟩=some (.int .i64 x)/\V.cell? ⟨gu,c,none⟩=some (.int .i64 ux))
          (first|exact(HV.out _ CW.out).1|exact(HV.out _ EC.out).1)
          (first|(go_at_call 13;refine(HV.out _ CW.out).2.1.mono ?_;rintro rv w'⟨rfl,rfl⟩)|(go_at_call 19;refine(HV.out _ CW.out).2.2.mono ?_;rintro rv w'⟨rfl,hb⟩;have CW:=Q0a (CW.out.trans (hb.mono CW.out.size));clear hb))
         all_goals
          go_wp2_with fail;go_roundg (k-(c+1))
          case measure=>have:=FL.out;omega
          case rel=>exact⟨c+1,by go_num,by have:=FL.out;omega,HS.out.grown CW.out⟩
        ·obtain rfl:c=k:=by have:=FL.out;omega
         obtain⟨t1,t2⟩:=Q6M Cj.out rfl rfl rfl (Z2K _) GI.out HS.out;have Ei:=Q0a t2;clear t2 HS;go_wp2_with fail;refine t1.mono ?_;rintro r w'⟨rfl,rfl⟩;clear t1;go_wp2_with fail;refine Ei.out.mono ?_;rintro r w10⟨ba,bc,rfl,E6⟩;have ks:=E6 fc;rw[GP.out] at ks ⊢;clear E6 Ei;go_wp2_with fail;refine ks.mono ?_;rintro r w11⟨rfl,Bh⟩;have HR:Hid (Told w (.bool true) (.returned (.bool true)) w11):=⟨rfl,Bh⟩
         clear ks Bh;go_wp2_with fail
         (try go_ret);exact HR.out
end Go.Proofs.YtfidemmgofcnmaaGreatDoor
namespace Go.Proofs.YtfidemmgofcnmaaGreatDoor
open Go.ChangeShapes Go.WideShapes Go.ChangeAt Go.RowKit Go.Deep Go.Proofs.Tryz
theorem Q4d{w:World}{x:Addr}{v:Value}(h:w.cell? x=some v):x=⟨x.block,x.off,none⟩:=by
 obtain⟨b,o,s⟩:=x;cases s with
 | none=>rfl
 | some s =>
  exfalso;unfold World.cell? at h;split at h <;> simp at h
theorem Q2E(b o j:Nat):(⟨b,o,none⟩:Addr).add j=⟨b,o+j,none⟩:=by
 unfold Addr.add;split
 ·rename_i h;simp[h]
 ·rfl
theorem Q4H:prog.cellsOf 28=4:=by kernel_rfl
theorem Q8f:prog.cellsOf 3=1:=by kernel_rfl
theorem Q6S{H:Type}{enc:TypeId×Value->H}{w:World}{n:Nat}{cs:List Value}{y:DataW H×List MemPlace}
  (h:DataW.trod enc prog w 0 (fun _=>true) true n 28 cs=some y):∃x:A4,cs=[.int .i64 x.k,.int .i64 x.f,.int .i64 x.c,.int .i64 x.n]/\x.n<=9223372036854775807:=by
 obtain⟨xs,n',_,_,Ad,Ej,hf⟩:=DataW.trod_struct underlying28 h;rw[Q4H] at Ad
 match cs,Ad with
 | [v0,v1,v2,v3],_ =>
  match xs,Ej with
  | [y0,y1,y2,y3],_ =>
   have g0:DataW.trod enc prog w 0 (fun _=>true) true n' 3 (List.take (prog.cellsOf 3) (List.drop 0 [v0,v1,v2,v3]))=some y0:=hf 0 _ rfl;have g1:DataW.trod enc prog w 0 (fun _=>true) true n' 3 (List.take (prog.cellsOf 3) (List.drop 1 [v0,v1,v2,v3]))=some y1:=hf 1 _ rfl;have g2:DataW.trod enc prog w 0 (fun _=>true) true n' 3 (List.take (prog.cellsOf 3) (List.drop 2 [v0,v1,v2,v3]))=some y2:=hf 2 _ rfl;have g3:DataW.trod enc prog w 0 (fun _=>true) true n' 3 (List.take (prog.cellsOf 3) (List.drop 3 [v0,v1,v2,v3]))=some y3:=hf 3 _ rfl;rw[Q8f] at g0 g1 g2 g3;simp only[List.drop_zero,List.take_succ_cons,List.take_zero,List.drop_succ_cons] at g0 g1 g2 g3
   obtain⟨a,e0,_,_⟩:=DataW.trod_int underlying3 g0;obtain⟨b,e1,_,_⟩:=DataW.trod_int underlying3 g1;obtain⟨c,e2,_,_⟩:=DataW.trod_int underlying3 g2;obtain⟨d,e3,_,EK⟩:=DataW.trod_int underlying3 g3;have hb:=(bounds_i64 (n:=d) (by simp_all)).2;simp only[Z0c,and_true] at e0 e1 e2 e3;subst e0;subst e1;subst e2;subst e3;exact⟨⟨a,b,c,d⟩,rfl,hb⟩
theorem Q5p{H:Type}{enc:TypeId×Value->H}{w:World}{fuel:Nat}{a0:Option Addr}{len Aa:Nat}{x:DataW H×List MemPlace}
  (h:DataW.trod enc prog w 0 (fun _=>true) true fuel 23 [.slice a0 len Aa]=some x):∃A,IsA4 w a0 len A:=by
 rcases open_slice underlying23 h with ⟨AM,_⟩|⟨a,len',BZ,m,n,D,Pl,AM,_,hl,_,F1,_,hi⟩
 ·simp only[Z0c,Value.slice.injEq,and_true] at AM;obtain⟨rfl,rfl,rfl⟩:=AM;exact⟨fun _=>⟨0,0,0,0⟩,fun j hj=>absurd hj (Z2P _)⟩
 ·simp only[Z0c,Value.slice.injEq,and_true] at AM;obtain⟨rfl,rfl,rfl⟩:=AM;have hm:len<=m:=by rw[F1];simp;exact hl
  have each:∀j,j<len->∃x:A4,w.cell? (a.add (j*4))=some (.int .i64 x.k)/\w.cell? ((a.add (j*4)).add 1)=some (.int .i64 x.f)/\w.cell? ((a.add (j*4)).add 2)=some (.int .i64 x.c)/\w.cell? ((a.add (j*4)).add 3)=some (.int .i64 x.n)/\x.n<=9223372036854775807:=by
   intro j hj;obtain⟨JV,hc,ht⟩:=hi j (by omega);rw[Q4H] at hc;obtain⟨x,rfl,hx⟩:=Q6S ht;obtain⟨_,_,C4⟩:=World.cells?_some hc;refine⟨x,?_,C4 1 (by omega),C4 2 (by omega),C4 3 (by omega),hx⟩;have:=C4 0 (by omega)
   simpa[Addr.add] using this
  by_cases h0:len=0
  ·exact⟨fun _=>⟨0,0,0,0⟩,fun j hj=>by omega⟩
  ·obtain⟨x0,c0,_⟩:=each 0 (by omega);have hp:=Q4d (x:=a) (by simpa[Addr.add] using c0);refine⟨fun j=>if hj:j<len then(each j hj).choose else⟨0,0,0,0⟩,fun j hj=>?_⟩;obtain⟨h1,h2,h3,h4,h5⟩:=(each j hj).choose_spec;simp only[hj,dif_pos];generalize (each j hj).choose=y at h1 h2 h3 h4 h5;rw[hp,Q2E] at h1 h2 h3 h4;rw[Q2E] at h2 h3 h4;exact⟨a.block,a.off,congrArg some hp,World.block_lt_of_cell? w ⟨a.block,a.off+j*4,none⟩ h1,h1,h2,h3,h4,h5⟩
end Go.Proofs.YtfidemmgofcnmaaGreatDoor
namespace Go.Proofs.YtfidemmgofcnmaaGreatDoor
open Go.RowKit Go.Proofs.Tryz
def Q6T:List (String×DataW Unit):=[("math/bits.deBruijn32tab", Rows.laid_math_bits_deBruijn32tab),("math/bits.deBruijn64tab", Rows.laid_math_bits_deBruijn64tab),("quartermaster/pool.costs", Rows.laid_quartermaster_pool_costs)]
def Q9U:List Int:=[0,1,28,2,29,14,24,3,30,22,20,15,25,17,4,8,31,27,13,23,21,19,16,7,26,12,18,6,11,5,10,9]
theorem g32:prog.globalNamed "math/bits.deBruijn32tab" = some 2:=by kernel_rfl
theorem t32:(prog.globals[2]?).map (·.type)=some 317:=by kernel_rfl
theorem g64:prog.globalNamed "math/bits.deBruijn64tab" = some 1:=by kernel_rfl
theorem Q9L:prog.globalNamed "quartermaster/pool.costs" = some 0:=by kernel_rfl
theorem t64:(prog.globals[1]?).map (·.type)=some 296:=by kernel_rfl
theorem Q9V:(prog.globals[0]?).map (·.type)=some 138:=by kernel_rfl
theorem Q4e{W:World}(h:laidMetH prog Q6T W):Env W:=by
 rw [MakeChecks.laidMetH_plain _ _ _ (by kernel_rfl)] at h;have h1:laidMet prog (("math/bits.deBruijn32tab", Lib.tabData .u8 Q9U)::[("math/bits.deBruijn64tab", Rows.laid_math_bits_deBruijn64tab),("quartermaster/pool.costs", Rows.laid_quartermaster_pool_costs)]) W:=h
 have hA:=Lib.tabIs_of_head g32 t32 underlying317 underlying5 (by kernel_rfl) (by kernel_rfl) h1;have h2:laidMet prog (("math/bits.deBruijn64tab", Lib.tabData .u8 (dbt.map fun (n:Nat)=>(n:Int)))::[("quartermaster/pool.costs", Rows.laid_quartermaster_pool_costs)]) W:=laidMet.tail h1
 have h3:laidMet prog (("quartermaster/pool.costs", Lib.tabData .i64 Q5r)::[]) W:=laidMet.tail h2
 have hB:=Lib.tabIs_of_head g64 t64 underlying296 underlying5 (by kernel_rfl) (by kernel_rfl) h2;have hC:=Lib.tabIs_of_head Q9L Q9V underlying138 underlying3 (by kernel_rfl) (by kernel_rfl) h3;have cB:TabB W:=by
  intro j v hv;have hj:=(Z0k.1 hv).1;have:=hB.cell g64 j (by simpa using hj);rw[this];congr 2;simp[List.getD,hv]
 have cC:TabC W:=by
  intro j v hv;have hj:=(Z0k.1 hv).1;have:=hC.cell Q9L j (by simpa using hj);rw[this];congr 2;simp[List.getD,hv]
 refine⟨?_,cB,cC⟩;have c0:=World.block_lt_of_cell? W ⟨1,0,none⟩ (cB 0 0 rfl);have c1:=World.block_lt_of_cell? W ⟨0,0,none⟩ (cC 0 0 rfl);have c2:=World.block_lt_of_cell? W ⟨2,0,none⟩ (hA.cell g32 0 (by decide));have JO:1<W.heap.size:=c0;have JC:0<W.heap.size:=c1;have JX:2<W.heap.size:=c2;unfold GB;omega
end Go.Proofs.YtfidemmgofcnmaaGreatDoor
namespace Go.Proofs.YtfidemmgofcnmaaGreatDoor
open Go Go.RowKit Go.ChangeShapes Go.WideShapes Go.Proofs.Tryz
section
variable {H:Type} {enc:TypeId×Value->H} {P:Program} {w:World} {base:Nat} {spare:Nat->Bool} {held:Bool}
theorem Q3A{t t' t'' t3 t4:TypeId}{args:Array Value}{ds:List (DataW H)}{ps:List MemPlace}(h:DataW.TrodAll enc P w base spare held [t,t',t'',t3,t4] args.toList ds ps) :
  ∃v v' v'' v3 v4 d d' d'' d3 d4 p p' p'' p3 p4,args=#[v,v',v'',v3,v4]/\ds=[d,d',d'',d3,d4]/\ps=p++p'++p''++p3++p4/\DataW.Trod enc P w base spare held t v d p/\DataW.Trod enc P w base spare held t' v' d' p'/\DataW.Trod enc P w base spare held t'' v'' d'' p''/\DataW.Trod enc P w base spare held t3 v3 d3 p3/\DataW.Trod enc P w base spare held t4 v4 d4 p4:=by
 obtain⟨v,vs,d,ds',p,q,GO,rfl,rfl,hd,DA⟩:=trodAll_cons h;obtain⟨v',vs',d',ds'',p',q',rfl,rfl,rfl,IL,De⟩:=trodAll_cons DA;obtain⟨v'',vs'',d'',ds''',p'',JH,rfl,rfl,rfl,Gf,Cz⟩:=trodAll_cons De;obtain⟨v3,vs3,d3,ds3,p3,q3,rfl,rfl,rfl,Gc,Dh⟩:=trodAll_cons Cz;obtain⟨v4,vs4,d4,ds4,p4,q4,rfl,rfl,rfl,G7,Dd⟩:=trodAll_cons Dh;obtain⟨rfl,rfl,rfl⟩:=trodAll_nil Dd;exact⟨v,v',v'',v3,v4,d,d',d'',d3,d4,p,p',p'',p3,p4,by cases args;simp_all,rfl,by simp,hd,IL,Gf,Gc,G7⟩
theorem Q4f{t t' t'' t3 t4:TypeId}{v v' v'' v3 v4:Value}{d d' d'' d3 d4:DataW H}{p p' p'' p3 p4:List MemPlace}(h:DataW.Trod enc P w base spare held t v d p)(h':DataW.Trod enc P w base spare held t' v' d' p')
  (G4:DataW.Trod enc P w base spare held t'' v'' d'' p'') (h3:DataW.Trod enc P w base spare held t3 v3 d3 p3) (h4:DataW.Trod enc P w base spare held t4 v4 d4 p4):DataW.TrodAll enc P w base spare held [t,t',t'',t3,t4] [v,v',v'',v3,v4] [d,d',d'',d3,d4] (p++(p'++(p''++(p3++p4)))):=⟨p,p'++(p''++(p3++p4)),h,trodAll_mk4 h' G4 h3 h4,rfl⟩
end
end Go.Proofs.YtfidemmgofcnmaaGreatDoor
