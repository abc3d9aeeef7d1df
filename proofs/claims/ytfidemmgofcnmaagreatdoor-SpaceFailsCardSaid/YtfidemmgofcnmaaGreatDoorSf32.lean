/- SpaceFails returns true at every input. No condition. Part of its proof. -/
import Derived.Test.YtfidemmgofcnmaaGreatDoorSf31
import Derived.Lib.LaidTab
import Derived.LaidMore
import Derived.MakeChecks
import Derived.Stop.LaidErr
set_option maxHeartbeats 20000000
set_option maxRecDepth 100000
set_option linter.unusedVariables false
namespace Go.Proofs.YtfidemmgofcnmaaGreatDoor
open Go.RowKit Go.Proofs.Tryz
theorem Q7g{w:World}(DC:Env w)(m:Nat)(hm:m<65536)(a0:Option Addr)(len cap:Nat)(A:Nat->A17)(hA:IsA17 w a0 len A)(x:A17)(hx:x.Wf)(B5:IsMv w x.la x.ll x.L) :
  Calls prog 5 #[.int .u16 m,.slice a0 len cap,.agg #[.int .i64 x.kind,.int .i64 x.n,.int .i64 x.k,.int .i64 x.m,.int .i64 x.t,.int .i64 x.u,.int .i64 x.s,.int .i64 x.r,.bool x.self,.slice x.la x.ll x.lc,.int .i64 x.i.base,.int .i64 x.i.order,.int .i64 x.i.r,.int .i64 x.i.off,.bool x.i.g,.int .i64 x.w.base,.int .i64 x.w.order]] w (Told w (.bool true)):=by
 obtain⟨hn,hk,J8,ht,hu,E7,Kd,Ac,R0,ND⟩:=hx;obtain⟨kind,n,k,mm,t,u,s,rr,self,la,ll,lc,L,i,v⟩:=x;dsimp only at *
 generalize hW1:w.alloc (.cells #[.int .i64 kind,.int .i64 n,.int .i64 k,.int .i64 mm,.int .i64 t,.int .i64 u,.int .i64 s,.int .i64 rr,.bool self,.slice la ll lc,.int .i64 i.base,.int .i64 i.order,.int .i64 i.r,.int .i64 i.off,.bool i.g,.int .i64 v.base,.int .i64 v.order] 67)=W1;have Bw:Below w.heap.size w W1:=by rw[<- hW1];exact(Below.refl w.heap.size w).alloc (J3b _) _
 have CC:Hid (∀V,Below W1.heap.size W1 V->Cells V w.heap.size 67 [.int .i64 kind,.int .i64 n,.int .i64 k,.int .i64 mm,.int .i64 t,.int .i64 u,.int .i64 s,.int .i64 rr,.bool self,.slice la ll lc,.int .i64 i.base,.int .i64 i.order,.int .i64 i.r,.int .i64 i.off,.bool i.g,.int .i64 v.base,.int .i64 v.order]):=fun V hb=>by
  subst hW1;exact(Cells.new w 67 [.int .i64 kind,.int .i64 n,.int .i64 k,.int .i64 mm,.int .i64 t,.int .i64 u,.int .i64 s,.int .i64 rr,.bool self,.slice la ll lc,.int .i64 i.base,.int .i64 i.order,.int .i64 i.r,.int .i64 i.off,.bool i.g,.int .i64 v.base,.int .i64 v.order]).same (hb.block _ (by simp))
 have ka:=Z1r (DC.below Bw);obtain⟨LS,Ja,Pm,OL⟩:=Z7M (m:=m);generalize (64+m%65473:Nat)=lm at *
 have Mh:Hid (∀W,Below w.heap.size w W->Calls prog 24 #[.slice a0 len cap] W fun r w'=>r=.returned (.bool (fewV A len))/\W=w'):=fun W hb=>J1I W a0 len cap A (hA.below hb)
 have I7:Hid (fewV A len=true->∀W,Below w.heap.size w W->Calls prog 25 #[.int .i64 lm,.slice a0 len cap] W fun r w'=>∃s,r=.returned (.pointer (some ⟨s,0,none⟩))/\AtB s 61 60 15360 W w'):=fun hf W hb=>by
  unfold fewV at hf;have hf:=of_decide_eq_true hf;exact Z7C (DC.below hb) _ (by omega) (by omega) a0 len cap A hf.1 (hA.below hb) hf.2
 have Bp:=Q0a Bw;have OW:=Q0a LS;have My:=Q0a Ja;have OP:=Q0a B5;have Li:Hid ((I64 t/\I64 u/\I64 n)/\i.Wf/\v.Wf):=⟨⟨ht,hu,hn⟩,R0,ND⟩
 have SZ:Hid (ll<=lc):=Ac.1;clear hA DC LS Ja Pm OL Bw B5 hn hk J8 ht hu E7 Kd Ac R0 ND;have F7:(0:Int)<=(m:Int):=by omega
 have DH:(m:Int)<65536:=by omega
 go_enter func5,ntmps5;go_wp2_with fail
 try rw[hW1]
 clear hW1;refine ka.mono ?_;rintro rv w0⟨rfl,Jp⟩;have Cy:=Q0a Jp;have E9:Hid (Below w.heap.size w w0):=Bp.out.trans (Jp.mono Bp.out.size);have kf:=Mh.out w0 E9.out;clear Jp ka Mh;go_wp2_with fail;refine kf.mono ?_;rintro rv w0'⟨rfl,rfl⟩;clear kf;have Ce:Hid (∀V,Below w0.heap.size w0 V->Cells V w.heap.size 67 [.int .i64 kind,.int .i64 n,.int .i64 k,.int .i64 mm,.int .i64 t,.int .i64 u,.int .i64 s,.int .i64 rr,.bool self,.slice la ll lc,.int .i64 i.base,.int .i64 i.order,.int .i64 i.r,.int .i64 i.off,.bool i.g,.int .i64 v.base,.int .i64 v.order]):=fun V hb=>CC.out V (Cy.out.trans (hb.mono Cy.out.size))
 have c9:=(Ce.out w0 (Below.refl _ _)).cell 9 _ rfl;clear CC Cy;generalize fewV A len=fv at *
 cases fv with
 | false =>
  clear I7 c9;go_wp2_with fail
  (try go_ret);exact⟨rfl,E9.out⟩
 | true =>
  by_cases NH:20<ll
  ·have Iv:(20:Int)<(ll:Int):=by omega
   have hd:decide ((20:Int)<(ll:Int))=true:=decide_eq_true Iv;clear I7;go_wp2_with fail
   (try go_ret);exact⟨rfl,E9.out⟩
  have Iv:¬(20:Int)<(ll:Int):=by omega
  have hd:decide ((20:Int)<(ll:Int))=false:=decide_eq_false Iv;have Jm:Hid (ll<=20):=by refine Q0a ?_;omega
  have kb:=I7.out rfl w0 E9.out;clear I7 NH;go_wp2_with fail
  first|rw[My.out]|rw[OW.out]
  refine kb.mono ?_;rintro rv w1⟨s0,rfl,Z,fr,rfl,ok,-,st⟩;clear c9 Iv hd;have Ci:=Q0a ok;have Br:=Q0a st;have GU:Hid (∀V,Step [] Z.hl w0 V->AsideM Z.hl ll L la V):=fun V st=>⟨(OP.out.below E9.out).below st.fresh,fun a h0 ha hk=>by
   obtain⟨g,off,hg,Ab,_⟩:=(OP.out.below E9.out) 0 (by omega);rw[ha] at hg;cases hg;rcases st.new _ hk with h|h
   ·cases h
   ·dsimp only at h;omega⟩
  have Fe:Hid (∀V,Below w1.heap.size w1 V->∀k n:Int,I64 n->Calls prog 35 #[.pointer (some ⟨Z.s,0,none⟩),.int .i64 k,.int .i64 n] V (Told V (.int .u32 ((nthV Z.S.l k n:Nat):Int)))):=fun V hb k n hn=>Z7s (Br.out.sep.grown hb).sep Ci.out k n hn
  have Do:Hid (∀k n,nthV Z.S.l k n<4294967296):=fun k n=>Z7r Ci.out.core.inv.lok k n
  clear ok st kb OP;go_upto_region 8 with fail
  go_cut [8,9,10] from 48 to 59 (fun a b c wc=>a=.int .u32 ((nthV Z.S.l 2 t:Nat):Int)/\b=.int .u32 ((nthV Z.S.l 2 u:Nat):Int)/\c=.int .u32 ((nthV Z.S.l 0 n:Nat):Int)/\Below w1.heap.size w1 wc)
  case first =>
   have BQ:Hid (Below w1.heap.size w1 w1.drew):=(Below.refl _ _).drew;have Ln:Hid (Below w1.heap.size w1 w1):=Below.refl _ _;have Dq:Hid (∀W,Below w1.heap.size w1 W->W.cell? ⟨w.heap.size,4,none⟩=some (.int .i64 t)/\W.cell? ⟨w.heap.size,5,none⟩=some (.int .i64 u)/\W.cell? ⟨w.heap.size,1,none⟩=some (.int .i64 n)):=fun W hb=>by
    have h:=Ce.out W (Br.out.fresh.trans (hb.mono Br.out.fresh.size));exact⟨h.cell 4 _ rfl,h.cell 5 _ rfl,h.cell 1 _ rfl⟩
   have HI:Hid (I64 t/\I64 u/\I64 n):=Li.out.1;clear Ce Ci Br GU Do Li
   go_region_held3 (fun W=>W.cell? ⟨w.heap.size,4,none⟩=some (.int .i64 t)/\W.cell? ⟨w.heap.size,5,none⟩=some (.int .i64 u)/\W.cell? ⟨w.heap.size,1,none⟩=some (.int .i64 n))
    (first|exact Dq.out _ BQ.out|exact Dq.out _ Ln.out)
    (first|(go_at_call 35;refine(Fe.out _ BQ.out _ _ (by first|exact HI.out.1|exact HI.out.2.1|exact HI.out.2.2)).mono ?_;rintro rv w'⟨rfl,hb⟩;have BQ:=Q0a (BQ.out.trans (hb.mono BQ.out.size));clear hb))
   all_goals (go_wp2_with fail;go_meet;exact⟨rfl,rfl,rfl,BQ.out⟩)
  obtain⟨rfl,rfl,rfl,hb⟩:=hcut;have hT:=Do.out 2 t;have hU:=Do.out 2 u;have hH:=Do.out 0 n;generalize nthV Z.S.l 2 t=x1 at *
  generalize nthV Z.S.l 2 u=y1 at *
  generalize nthV Z.S.l 0 n=h1 at *
  have Mj:=Br.out.trans (Br.out.sep.grown hb);have Hh:Hid (x1<4294967296/\y1<4294967296/\h1<4294967296):=⟨hT,hU,hH⟩
  obtain⟨m1,m2,m3,m4,m5⟩:=Z9Y Ci.out Mj;have Pd:=Q0a m1;have I8:=Q0a m2;have J6:=Q0a m3;have IQ:=Q0a m4;have Ss:=Q0a m5;have Fo:Hid ((Q5z Z.S.P.q.E).length<=256):=by rw[Z0n];exact Z2H Ci.out.core
  have Ez:Hid ((Q1f Z.S.l 2 (allL Z.S.l 1)).length<=256):=J3c (Q4V _ _ _) (Q8B Ci.out.core.inv.len);have Ku:Hid (∀y∈Q1f Z.S.l 2 (allL Z.S.l 1),y<4294967296):=fun y hy=>by
   unfold Q1f at hy;obtain⟨p,hp⟩:=isK_iff.1 (J3w.1 hy).2;exact Q8C Ci.out.core.inv.lok hp.1
  clear hb hT hU hH Fe Do Mj Br m1 m2 m3 m4 m5;generalize Q1f Z.S.l 2 (allL Z.S.l 1)=T at *
  generalize Ae:Q5z Z.S.P.q.E=ids at *
  clear Ae;go_wp2_with fail;refine Pd.out.mono ?_;rintro rv w'⟨rfl,rfl⟩;go_wp2_with fail;refine I8.out.mono ?_;rintro rv w'⟨rfl,rfl⟩;go_wp2_with fail;refine J6.out.mono ?_;rintro rv w'⟨rfl,rfl⟩;clear J6;go_wp2_with fail;refine Pd.out.mono ?_;rintro rv w'⟨rfl,rfl⟩;clear Pd;go_wp2_with fail;refine I8.out.mono ?_;rintro rv w'⟨rfl,rfl⟩;clear I8;go_wp2_with fail;refine IQ.out.mono ?_;rintro rv w'⟨rfl,rfl⟩;clear IQ;go_wp2_with fail;refine Ss.out.mono ?_;rintro rv w2⟨fa,fc,F,rfl,hF,k2⟩;have HF:=Q0a hF;have Hq:=Q0a k2;clear hF k2 Ss;go_wp2_with fail;refine Hq.out.mono ?_;rintro rv w3⟨ia,ic,rfl,k3⟩
  have SU:=Q0a k3;clear k3 Hq;go_wp2_with fail;refine SU.out.mono ?_;rintro rv w4⟨ta,tc,rfl,fl⟩;have Cx:=Q0a fl;clear fl SU;generalize hnI:ids.length=nI at *
  generalize hnT:T.length=nT at *
  generalize hnF:F.length=nF at *
  have KJ:=Q0a hnI;have Lh:=Q0a hnT;have QO:=Q0a hnF;clear hnI hnT hnF;have NQ:(nI:Int)<=256:=by have:=Fo.out;omega
  have G4:(nT:Int)<=256:=by have:=Ez.out;omega
  go_wp2_with fail;have Rg:Hid (∃rv,rvOk rv 0/\FlS (rowH rv 3 1 (((ids.take 0).map (Q1W Z.S.P.q.E)).map encI)++Z.hl) T ta ids ia F fa w0 w4/\lvOf rv 0=.slice none 0 0):=⟨none,rfl,by simpa[rowH] using Cx.out,rfl⟩
  clear Cx
  go_loopg [15,16] nI (fun gk ov v wi=>∃(k:Nat) (rv:RV),v=.int .i64 k/\k+gk=nI/\ov=lvOf rv k/\rvOk rv k/\FlS (rowH rv 3 1 (((ids.take k).map (Q1W Z.S.P.q.E)).map encI)++Z.hl) T ta ids ia F fa w0 wi)
  case atStart =>
   obtain⟨rv,h1,h2,h3⟩:=Rg.out;exact⟨0,rv,rfl,J5G _,h3.symm,h1,h2⟩
  case round =>
   clear Rg;obtain⟨j,rv,rfl,AC,rfl,A6,Bm⟩:=hrel;have Cg:=Q0a AC;by_cases DX:j<nI
   ·obtain⟨id,hx⟩:∃y,ids[j]?=some y:=⟨_,J5t (by rw[KJ.out];exact DX)⟩
    obtain⟨gi,rfl,_,_,EA⟩:=Bm.ia j (encI id) (by rw[J4N,hx];rfl);have QU:=J0l (SP.sS Bm.st.sep.right) Ci.out.core id;have SM:=Q0a Bm;have HX:=Q0a hx;have PF:=Q0a A6;have C3:(j:Int)<(nI:Int):=by omega
    clear Bm hx AC A6;generalize BR:lvOf rv j=ov1 at *
    have Hm:=Q0a BR;clear BR;go_wp2_with fail;refine QU.mono ?_;rintro r w8⟨rfl,G3⟩;obtain⟨rv2,w9,AK,L1,L6⟩:=J2G (SM.out.grown G3) PF.out HX.out (by have:=KJ.out;have:=Fo.out;omega);rw[Hm.out] at AK;have Vp:=Q0a L6;have CE:=Q0a L1;clear G3 L6 L1 QU EA SM;generalize Q1W Z.S.P.q.E id=ux at *
    go_wp2_with (at_builtin;refine Lib.wpList_append_run _ rfl _ _ _ _ rfl _ _ rfl rfl _ _ AK ?_);go_roundg (nI-(j+1))
    case measure=>have:=Cg.out;omega
    case rel=>exact⟨j+1,rv2,by go_num,by have:=Cg.out;omega,rfl,CE.out,Vp.out⟩
   ·obtain rfl:j=nI:=by have:=Cg.out;omega
    rw[J5a (by rw[KJ.out];exact J3b _)] at Bm;have PF:=Q0a A6;obtain⟨U,hU⟩:∃U,U=rowH rv 3 1 ((ids.map (Q1W Z.S.P.q.E)).map encI):=⟨_,rfl⟩
    rw[<- hU] at Bm;obtain⟨f,hf⟩:∃f:Nat->Nat×Nat,f=fun j=>cpV (Z.av.en (T[j/256]?.getD 0) (j%256)):=⟨_,rfl⟩
    have Qy:Hid (∀a b x,b<256->T[a]?=some x->f (256*a+b)=cpV (Z.av.en x b)):=fun a b x hb hx=>by
     rw[hf];dsimp only;rw[show(256*a+b)/256=a by omega,show(256*a+b)%256=b by omega,hx];rfl
    have HU:=Q0a hU;have Cx:=Q0a Bm;clear hf hU Bm AC A6;generalize BR:lvOf rv j=ovU at *
    have Lx:=Q0a BR;clear BR;go_wp2_with fail;have Ga:Hid (∃rc,rvOk rc (256*0)/\FlS (rowH rc 72 2 (capR f (256*0))++(U++Z.hl)) T ta ids ia F fa w0 wr/\lvOf rc (256*0)=.slice none 0 0):=⟨none,rfl,by simpa[rowH] using Cx.out,rfl⟩
    clear Cx;obtain⟨wl,Vl⟩:∃wl,wl=wr:=⟨_,rfl⟩
    subst Vl;obtain⟨gk1,Ch⟩:∃g,g=gk:=⟨_,rfl⟩
    subst Ch
    go_loopg [17,18] nT (fun gk ov v wi=>∃(a:Nat) (rc:RV),v=.int .i64 a/\a+gk=nT/\ov=lvOf rc (256*a)/\rvOk rc (256*a)/\FlS (rowH rc 72 2 (capR f (256*a))++(U++Z.hl)) T ta ids ia F fa w0 wi)
    case atStart =>
     obtain⟨rc,h1,h2,h3⟩:=Ga.out;exact⟨0,rc,rfl,J5G _,h3.symm,h1,h2⟩
    case round =>
     clear Ga;obtain⟨a,rc,rfl,RK,rfl,Ne,Bm⟩:=hrel;have Pb:=Q0a RK;have KB:=Q0a Ne;have Cx:=Q0a Bm;clear RK Ne Bm;by_cases CH:a<nT
     ·obtain⟨y,hy⟩:∃y,T[a]?=some y:=⟨_,J5t (by rw[Lh.out];exact CH)⟩
      have Cl:=Ku.out y (J5q hy);have HY:=Q0a hy;have Un:(a:Int)<(nT:Int):=by omega
      have Pt:(0:Int)<=(a:Int):=by omega
      clear hy;generalize BR:lvOf rc (256*a)=ov1 at *
      have Hm:=Q0a BR;clear BR;go_wp2_with fail;obtain⟨wm,Oz⟩:∃wl,wl=wr:=⟨_,rfl⟩
      subst Oz;obtain⟨gk2,Bu⟩:∃g,g=gk:=⟨_,rfl⟩
      subst Bu
      go_loopg [17,19] 256 (fun gk ov v wi=>∃(b:Nat) (rc:RV),v=.int .i64 b/\b+gk=256/\ov=lvOf rc (256*a+b)/\rvOk rc (256*a+b)/\FlS (rowH rc 72 2 (capR f (256*a+b))++(U++Z.hl)) T ta ids ia F fa w0 wi)
      case atStart=>exact⟨0,rc,rfl,J5G _,Hm.out.symm,KB.out,Cx.out⟩
      case round =>
       clear Hm KB Cx;obtain⟨b,rc,rfl,Jw,rfl,Ne,Bm⟩:=hrel;have Ki:=Q0a Jw;have KB:=Q0a Ne;have Cx:=Q0a Bm;clear Jw Ne;have Bw:(0:Int)<=(b:Int):=by omega
       by_cases CS:b<256
       ·obtain⟨g,rfl,_,_,JB⟩:=Bm.va a y HY.out;obtain⟨e,kl⟩:=J1M Bm.st.sep.right.right Ci.out Cl CS;rw[<- Qy.out a b y CS HY.out] at kl;have Hg:(b:Int)<256:=by omega
        clear Bm;generalize BR:lvOf rc (256*a+b)=ov1 at *
        have Hm:=Q0a BR;clear BR;go_wp2_with fail;refine kl.mono ?_;rintro r w5⟨rfl,AD⟩;have LM:=(Cx.out.grown AD).grown ((Below.refl _ w5).alloc (J3b _) (.cells #[.int .u32 ((f (256*a+b)).1:Int),.int .i64 ((f (256*a+b)).2:Int)] 72));have Bn:=(Cells.new w5 72 [.int .u32 ((f (256*a+b)).1:Int),.int .i64 ((f (256*a+b)).2:Int)])
        have z0:=Bn.cell 0 _ rfl;have z1:=Bn.cell 1 _ rfl;obtain⟨rc2,w7,AK,Mt,Mw⟩:=J2H LM KB.out (by have:=Lh.out;have:=Ez.out;omega);rw[Hm.out] at AK;have Be:(w5.alloc (.cells #[.int .u32 ((f (256*a+b)).1:Int),.int .i64 ((f (256*a+b)).2:Int)] 72)).heap.size=w5.heap.size+1:=by simp
        rw[Be] at AK;have TO:=Q0a Mw;have CE:=Q0a Mt;clear AD LM Mw Mt kl JB Cx Bn Be;generalize f (256*a+b)=cv at *
        go_wp2_with (at_builtin;refine Lib.wpList_append_run _ rfl _ _ _ _ rfl _ _ rfl rfl _ _ AK ?_);go_roundg (256-(b+1))
        case measure=>have:=Ki.out;omega
        case rel=>exact⟨b+1,rc2,by go_num,by have:=Ki.out;omega,rfl,CE.out,TO.out⟩
       ·obtain rfl:b=256:=by have:=Ki.out;omega
        have HN:Hid (rvOk rc (256*(a+1))/\FlS (rowH rc 72 2 (capR f (256*(a+1)))++(U++Z.hl)) T ta ids ia F fa w0 wr):=by
         have e:256*(a+1)=256*a+256:=by omega
         refine Q0a ?_;rw[e];exact⟨KB.out,Cx.out⟩
        clear Bm KB Cx;generalize BR:lvOf rc (256*a+256)=ov1 at *
        have Hm:=Q0a BR;clear BR;go_wp2_with fail;go_roundg (nT-(a+1))
        case measure=>have:=Pb.out;omega
        case rel=>exact⟨a+1,rc,by go_num,by have:=Pb.out;omega,(show ov1=lvOf rc (256*(a+1)) from by rw[show 256*(a+1)=256*a+256 by omega];exact Hm.out.symm),HN.out.1,HN.out.2⟩
     ·obtain rfl:a=nT:=by have:=Pb.out;omega
      have Bm:=Cx.out;rw[<- J4c] at Bm;obtain⟨C,hC⟩:∃C,C=rowH rc 72 2 (capR f (256*a)):=⟨_,rfl⟩
      rw[<- hC] at Bm;have Ap:Step [] Z.hl w0 wr:=Bm.st.drop (J3S _ _);have Bn:=Ce.out wr Ap.fresh;have Rc:=Z9Z Ci.out Bm (by omega) Hh.out.1 Hh.out.2.1 i v Li.out.2.1 Li.out.2.2 lc Jm.out (GU.out wr Ap);have Ns:=Bn.cell 10 _ rfl;have NK:=Bn.cell 11 _ rfl;have NL:=Bn.cell 12 _ rfl;have N7:=Bn.cell 13 _ rfl;have Oj:=Bn.cell 14 _ rfl;have IV:=Bn.cell 15 _ rfl;have NR:=Bn.cell 16 _ rfl;have Kt:=Q0a Bm;have HC:=Q0a hC;have LO:Hid (∀a b x,b<256->T[a]?=some x->f (256*a+b)=cpV (Z.av.en x b)):=Qy.out;have Q3:Hid (∀V,Below wr.heap.size wr V->FlS ((C++U)++Z.hl) T ta ids ia F fa w0 V/\Step [] Z.hl w0 V/\Cells V w.heap.size 67 [.int .i64 kind,.int .i64 n,.int .i64 k,.int .i64 mm,.int .i64 t,.int .i64 u,.int .i64 s,.int .i64 rr,.bool self,.slice la ll lc,.int .i64 i.base,.int .i64 i.order,.int .i64 i.r,.int .i64 i.off,.bool i.g,.int .i64 v.base,.int .i64 v.order]):=fun V hb=>⟨Kt.out.grown hb,Ap.trans (Ap.sep.grown hb),Ce.out V (Ap.trans (Ap.sep.grown hb)).fresh⟩
      clear Bm hC Ap Bn Cx Ce Qy;generalize BR:lvOf rc (256*a)=ovC at *
      have MF:=Q0a BR;clear BR;go_wp2_with fail;refine Rc.mono ?_;rintro rv w5⟨uu,er0,rfl,AD,S6⟩;obtain⟨Id,LP,Df⟩:=Q3.out w5 AD;have Fv:=Q0a S6;have KX:=Z7L Ci.out Id (A:=L) (a0:=la) (n:=ll) (cap:=lc) (by have:=Jm.out;omega) Hh.out.1 Hh.out.2.1 (by have:=Jm.out;omega) SZ.out (GU.out w5 LP);have KP:=J1O Ci.out Id (by omega) (by omega) Hh.out.1 Hh.out.2.2 s k mm;have Ip:=J1N Ci.out Id (by omega) Hh.out.1 Hh.out.2.2 s rr;have c0:=Df.cell 0 _ rfl;have d2:=Df.cell 2 _ rfl;have d3:=Df.cell 3 _ rfl;have d6:=Df.cell 6 _ rfl;have d7:=Df.cell 7 _ rfl
      have d9:=Df.cell 9 _ rfl;have O0:Hid (∀V,Below w5.heap.size w5 V->V.cell? ⟨w.heap.size,9,none⟩=some (.slice la ll lc)):=fun V hb=>(Df.same (hb.block _ Df.lt)).cell 9 _ rfl
      obtain⟨k3,FY⟩:∃z,z=kind.tmod 3:=⟨_,rfl⟩
      obtain⟨r2,GY⟩:∃z,z=rr.tmod 2:=⟨_,rfl⟩
      have P6:-3<k3/\k3<3:=by
       rw[FY];have h1:=Int.tmod_lt_of_pos kind (b:=3) (by decide);have h2:=Int.lt_tmod_of_pos kind (b:=3) (by decide);omega
      have Q9:-2<r2/\r2<2:=by
       rw[GY];have h1:=Int.tmod_lt_of_pos rr (b:=2) (by decide);have h2:=Int.lt_tmod_of_pos rr (b:=2) (by decide);omega
      have Po:=FY.symm;have PA:=GY.symm;have J0:wrap64 k3=k3:=Go.IntWalk.wrap64_in _ (by omega);have GT:wrap64 r2=r2:=Go.IntWalk.wrap64_in _ (by omega);have QB:IntKind.i64.wrap k3=k3:=Go.IntWalk.i64_in _ (by omega);have Ot:IntKind.i64.wrap r2=r2:=Go.IntWalk.i64_in _ (by omega);obtain⟨b0,Bw⟩:∃b,(k3==0)=b:=⟨_,rfl⟩
      have QA:decide (k3=0)=b0:=by rw[<- Bw];rfl
      clear Rc Ns NK NL N7 Oj IV NR FY GY AD Df LP Id S6
      go_upto_if 125 with fail
      go_cut [23] from 126 to 169 (fun ev wd=>∃er:Int,ev=.int .i64 er/\FlT Z fr 61 60 15360 (C++U) T ta ids ia F fa w0 er wd)
      case first =>
       clear Q3 Ci Hh Li LO MF Lx HC HU Kt GU HF Ku Fo Ez KJ Lh QO;cases b0 with
       | true =>
        clear KP Ip Fv;go_wp2_with fail;refine KX.mono ?_;rintro rv w6⟨er,rfl,EG⟩;have Ky:=Q0a EG;clear EG KX;go_wp2_with fail;go_meet;exact⟨er,rfl,Ky.out⟩
       | false =>
        have Dk:¬k3=0:=by simpa using Bw
        by_cases h1:k3=1
        ·have K0:(k3==1)=true:=by simp[h1]
         obtain⟨u',w6,e1,C8,LB⟩:=Fv.out;have LK:=Q0a LB;clear KP Ip KX Fv LB h1;go_wp2_with (at_builtin;refine Lib.wpList_append_run _ rfl _ _ _ _ rfl _ _ rfl rfl _ _ e1 ?_);refine LK.out.mono ?_;rintro rv w7⟨er,rfl,EG⟩;have Ky:=Q0a EG;clear EG LK;go_wp2_with fail;go_meet;exact⟨er,rfl,Ky.out⟩
        ·have K0:(k3==1)=false:=by simp[h1]
         by_cases h2:r2=0
         ·have QE:(r2==0)=true:=by simp[h2]
          clear KX Ip Fv h2;go_wp2_with fail;refine KP.mono ?_;rintro rv w6⟨hh,er,rfl,EG⟩;have Ky:=Q0a EG;clear EG KP;go_wp2_with fail;go_meet;exact⟨er,rfl,Ky.out⟩
         ·have QE:(r2==0)=false:=by simp[h2]
          clear KX KP Fv;go_wp2_with fail;refine Ip.mono ?_;rintro rv w6⟨er,rfl,EG⟩;have Ky:=Q0a EG;clear EG Ip;go_wp2_with fail;go_meet;exact⟨er,rfl,Ky.out⟩
      obtain⟨er,rfl,EG⟩:=hcut;clear DX CH NQ G4;clear c0 d2 d3 d6 d7 d9 P6 Q9 Po PA J0 GT QB Ot Bw QA KX KP Ip Fv Q3 O0 Li Hh GU;rcases EG with ⟨rfl,Si⟩|⟨h0,Z',ok',al,Bm⟩
      ·have HR:Hid (Told w (.bool true) (.returned (.bool true)) wc):=⟨rfl,E9.out.trans (Si.mono E9.out.size)⟩
       clear Si;go_wp2_with fail
       (try go_ret);exact HR.out
      have Dj:(er==0)=false:=by simp[h0]
      have Io:=Q0a ok';have NW:=Q0a al;have Sl:=Q0a Bm;clear ok' al Bm Ci Kt h0;go_wp2_with fail;obtain⟨wq,Mx⟩:∃wl,wl=wc:=⟨_,rfl⟩
      subst Mx
      go_loopg [24] j (fun gk v wi=>∃c:Nat,v=.int .i64 c/\c+gk=j/\FlS ((C++U)++Z'.hl) T ta ids ia F fa w0 wi)
      case atStart=>exact⟨0,rfl,J5G _,Sl.out⟩
      case round =>
       clear Sl;obtain⟨c,rfl,Ma,Bm⟩:=hrel;have Qj:=Q0a Ma;have Cx:=Q0a Bm;clear Ma;by_cases AM:c<j
       ·obtain⟨id,hx⟩:∃y,ids[c]?=some y:=⟨_,J5t (by rw[KJ.out];exact AM)⟩
        obtain⟨gi,rfl,_,Om,EA⟩:=Bm.ia c (encI id) (by rw[J4N,hx];rfl);have Pq:=Bm.st.sep.left.right;rw[HU.out] at Pq;obtain⟨gu,cu,e2,Pw,JB⟩:=J2W Pq PF.out KJ.out hx;rw[Lx.out] at e2;subst e2;have SO:=World.block_lt_of_cell? wr ⟨gu,c,none⟩ JB;have UR:Hid (∀V,Below wr.heap.size wr V->Calls prog 19 #[.pointer (some ⟨Z.S.P.q.t,0,none⟩),.int .i64 id] V (Told V (.int .i64 (Q1W Z.S.P.q.E id)))):=fun V hb=>J1Q Io.out NW.out (Cx.out.grown hb).st.sep.right id
        have I5:Hid (∀V,Below wr.heap.size wr V->V.cell? ⟨gi,c,none⟩=some (.int .i64 id)/\V.cell? ⟨gu,c,none⟩=some (.int .i64 (Q1W Z.S.P.q.E id))):=fun V hb=>⟨(World.cell?_of_block (w:=wr) (hb.block gi Om)).trans EA,(World.cell?_of_block (w:=wr) (hb.block gu SO)).trans JB⟩
        have Ih:(c:Int)<(j:Int):=by omega
        have BF:(c:Int)<256:=by have:=Fo.out;omega
        have Ks:(0:Int)<=(c:Int):=by omega
        have BQ:Hid (Below wr.heap.size wr wr.drew):=(Below.refl _ _).drew;have Ln:Hid (Below wr.heap.size wr wr):=Below.refl _ _;clear Bm hx Pq EA JB Om SO;generalize Q1W Z.S.P.q.E id=ux at *
        have NT:(ux != ux)=false:=by simp
        go_upto_region 38 with fail
        go_region_held3 (fun V=>V.cell? ⟨gi,c,none⟩=some (.int .i64 id)/\V.cell? ⟨gu,c,none⟩=some (.int .i64 ux))
         (first|exact I5.out _ BQ.out|exact I5.out _ Ln.out)
         (first|(go_at_call 19;refine(UR.out _ BQ.out).mono ?_;rintro rv w'⟨rfl,hb⟩;have BQ:=Q0a (BQ.out.trans (hb.mono BQ.out.size));clear hb))
        all_goals
         go_wp2_with fail;go_roundg (j-(c+1))
         case measure=>have:=Qj.out;omega
         case rel=>exact⟨c+1,by go_num,by have:=Qj.out;omega,Cx.out.grown BQ.out⟩
       ·obtain rfl:c=j:=by have:=Qj.out;omega
        clear Bm;go_wp2_with fail;obtain⟨wq,Mx⟩:∃wl,wl=wr:=⟨_,rfl⟩
        subst Mx;obtain⟨gk3,IL⟩:∃g,g=gk:=⟨_,rfl⟩
        subst IL
        go_loopg [25] a (fun gk v wi=>∃c:Nat,v=.int .i64 c/\c+gk=a/\FlS ((C++U)++Z'.hl) T ta ids ia F fa w0 wi)
        case atStart=>exact⟨0,rfl,J5G _,Cx.out⟩
        case round =>
         clear Cx;obtain⟨d,rfl,RO,Bm⟩:=hrel;have Q6:=Q0a RO;have Cx:=Q0a Bm;clear RO Bm;by_cases DF:d<a
         ·obtain⟨y,hy⟩:∃y,T[d]?=some y:=⟨_,J5t (by rw[Lh.out];exact DF)⟩
          have Cl:=Ku.out y (J5q hy);have HY:=Q0a hy;have Wc:(d:Int)<(a:Int):=by omega
          have Gb:(d:Int)<256:=by have:=Ez.out;have:=Lh.out;omega
          have Nv:(0:Int)<=(d:Int):=by omega
          clear hy;go_wp2_with fail;obtain⟨wm,Oz⟩:∃wl,wl=wr:=⟨_,rfl⟩
          subst Oz;obtain⟨gk4,FQ⟩:∃g,g=gk:=⟨_,rfl⟩
          subst FQ
          go_loopg [26] 256 (fun gk v wi=>∃b:Nat,v=.int .i64 b/\b+gk=256/\FlS ((C++U)++Z'.hl) T ta ids ia F fa w0 wi)
          case atStart=>exact⟨0,rfl,J5G _,Cx.out⟩
          case round =>
           clear Cx;obtain⟨b,rfl,Jw,Bm⟩:=hrel;have Ki:=Q0a Jw;have Cx:=Q0a Bm;clear Jw;have Bw:(0:Int)<=(b:Int):=by omega
           by_cases CS:b<256
           ·obtain⟨g,rfl,_,_,JB⟩:=Bm.va d y HY.out;obtain⟨e,kl⟩:=J0a Io.out NW.out Bm.st.sep.right Cl CS;rw[<- LO.out d b y CS HY.out] at kl;have Qt:=Bm.st.sep.left.left;rw[HC.out] at Qt;obtain⟨gc,cc,e3,A7,q0,q1⟩:=J2I Qt KB.out (j:=256*d+b) (by omega);rw[MF.out] at e3;subst e3;have Mq:=World.block_lt_of_cell? wr ⟨gc,(256*d+b)*2,none⟩ q0;have Hg:(b:Int)<256:=by omega
            generalize hnC:256*a=nC at *
            obtain⟨p,hp⟩:∃p:Int,(256:Int)*(d:Int)=p:=⟨_,rfl⟩
            have Tb:0<=p/\p<=65536:=by have:=Ez.out;have:=Lh.out;omega
            have Pv:p+(b:Int)=((256*d+b:Nat):Int):=by omega
            have Tu:256*d+b<nC:=by omega
            have SX:256*d+b<65536:=by omega
            generalize 256*d+b=q at *
            have Ut:(q:Int)<(nC:Int):=by omega
            have II:(0:Int)<=(q:Int):=by omega
            obtain⟨Tt,OM,Mx,Q4⟩:wrap64 p=p/\IntKind.i64.wrap p=p/\wrap64 (q:Int)=(q:Int)/\IntKind.i64.wrap (q:Int)=(q:Int):=⟨Go.IntWalk.wrap64_in _ (by omega),Go.IntWalk.i64_in _ (by omega),Go.IntWalk.wrap64_in _ (by omega),Go.IntWalk.i64_in _ (by omega)⟩
            generalize f q=cv at *
            clear Bm Qt;go_wp2_with fail;refine kl.mono ?_;rintro r w5⟨rfl,AD⟩;have C8:=AD.alloc AD.size (.cells #[.int .u32 (cv.1:Int),.int .i64 (cv.2:Int)] 72);have Bn:=Cells.new w5 72 [.int .u32 (cv.1:Int),.int .i64 (cv.2:Int)];have z0:=Bn.cell 0 _ rfl;have z1:=Bn.cell 1 _ rfl;have p0:=(World.cell?_of_block (w:=wr) (a:=⟨gc,q*2,none⟩) (C8.block gc Mq)).trans q0;have p1:=(World.cell?_of_block (w:=wr) (a:=⟨gc,q*2+1,none⟩) (C8.block gc Mq)).trans q1;have Ng:=Q0a (Cx.out.grown C8);clear AD C8 Bn kl q0 q1 JB Mq Cx;go_upto_region 47 with fail;generalize w5.alloc (.cells #[.int .u32 (cv.1:Int),.int .i64 (cv.2:Int)] 72)=w6 at *
            generalize w5.heap.size=bx at *
            have TW:Hid (∀n,FlS ((C++U)++Z'.hl) T _ ids ia F fa w0 (w6.drewN n)):=fun n=>Ng.out.grown (Q0Y (Below.refl _ _) n)
            go_quiet (fail)
            clear Tt OM Mx Q4 hp Tb Pv Tu SX Ut II;go_wp2_with fail;go_roundg (256-(b+1))
            case measure=>have:=Ki.out;omega
            case rel=>exact⟨b+1,by go_num,by have:=Ki.out;omega,TW.out _⟩
           ·obtain rfl:b=256:=by have:=Ki.out;omega
            clear Bm;go_wp2_with fail;go_roundg (a-(d+1))
            case measure=>have:=Q6.out;omega
            case rel=>exact⟨d+1,by go_num,by have:=Q6.out;omega,Cx.out⟩
         ·obtain rfl:d=a:=by have:=Q6.out;omega
          obtain⟨m1,m2,m3,m4⟩:=J1P Io.out NW.out HF.out Cx.out;have I8:=Q0a m2;have J6:=Q0a m3;have IQ:=Q0a m4;clear m2 m3 m4 Cx Io NW;go_wp2_with fail;refine m1.mono ?_;rintro rv w'⟨rfl,rfl⟩;clear m1;go_wp2_with fail;refine I8.out.mono ?_;rintro rv w'⟨rfl,rfl⟩;clear I8;go_wp2_with fail;refine J6.out.mono ?_;rintro rv w'⟨rfl,rfl⟩;clear J6;go_wp2_with fail;refine IQ.out.mono ?_;rintro rv w5⟨ba,bc,rfl,RJ⟩;have ks:=RJ fc;rw[QO.out] at ks ⊢;clear RJ IQ;go_wp2_with fail;refine ks.mono ?_;rintro rv w6⟨rfl,C8⟩;have HR:Hid (Told w (.bool true) (.returned (.bool true)) w6):=⟨rfl,E9.out.trans (C8.mono E9.out.size)⟩
          clear ks C8;go_wp2_with fail
          (try go_ret);exact HR.out
def Z7N:List (String×DataW Unit):=[("math/bits.deBruijn32tab", Rows.laid_math_bits_deBruijn32tab),("math/bits.deBruijn64tab", Rows.laid_math_bits_deBruijn64tab),("quartermaster/pool.costs", Rows.laid_quartermaster_pool_costs)]
def J2X:List Int:=[0,1,28,2,29,14,24,3,30,22,20,15,25,17,4,8,31,27,13,23,21,19,16,7,26,12,18,6,11,5,10,9]
theorem g32:prog.globalNamed "math/bits.deBruijn32tab" = some 2:=by kernel_rfl
theorem t32:(prog.globals[2]?).map (·.type)=some 317:=by kernel_rfl
theorem g64:prog.globalNamed "math/bits.deBruijn64tab" = some 1:=by kernel_rfl
theorem J2K:prog.globalNamed "quartermaster/pool.costs" = some 0:=by kernel_rfl
theorem t64:(prog.globals[1]?).map (·.type)=some 296:=by kernel_rfl
theorem J2Y:(prog.globals[0]?).map (·.type)=some 138:=by kernel_rfl
theorem Z1y{W:World}(h:laidMetH prog Z7N W):Env W:=by
 rw [MakeChecks.laidMetH_plain _ _ _ (by kernel_rfl)] at h;have h1:laidMet prog (("math/bits.deBruijn32tab", Lib.tabData .u8 J2X)::[("math/bits.deBruijn64tab", Rows.laid_math_bits_deBruijn64tab),("quartermaster/pool.costs", Rows.laid_quartermaster_pool_costs)]) W:=h
 have hA:=Lib.tabIs_of_head g32 t32 underlying317 underlying5 (by kernel_rfl) (by kernel_rfl) h1;have h2:laidMet prog (("math/bits.deBruijn64tab", Lib.tabData .u8 (dbt.map fun (n:Nat)=>(n:Int)))::[("quartermaster/pool.costs", Rows.laid_quartermaster_pool_costs)]) W:=laidMet.tail h1
 have h3:laidMet prog (("quartermaster/pool.costs", Lib.tabData .i64 Z4D)::[]) W:=laidMet.tail h2
 have hB:=Lib.tabIs_of_head g64 t64 underlying296 underlying5 (by kernel_rfl) (by kernel_rfl) h2;have hC:=Lib.tabIs_of_head J2K J2Y underlying138 underlying3 (by kernel_rfl) (by kernel_rfl) h3;have cB:TabB W:=by
  intro j v hv;have hj:=(J3t.1 hv).1;have:=hB.cell g64 j (by simpa using hj);rw[this];congr 2;simp[List.getD,hv]
 have cC:TabC W:=by
  intro j v hv;have hj:=(J3t.1 hv).1;have:=hC.cell J2K j (by simpa using hj);rw[this];congr 2;simp[List.getD,hv]
 refine⟨?_,cB,cC⟩;have c0:=World.block_lt_of_cell? W ⟨1,0,none⟩ (cB 0 0 rfl);have c1:=World.block_lt_of_cell? W ⟨0,0,none⟩ (cC 0 0 rfl);have c2:=World.block_lt_of_cell? W ⟨2,0,none⟩ (hA.cell g32 0 (by decide));have NP:1<W.heap.size:=c0;have Sy:0<W.heap.size:=c1;have We:2<W.heap.size:=c2;unfold GB;omega
end Go.Proofs.YtfidemmgofcnmaaGreatDoor
