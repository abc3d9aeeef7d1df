/- What the laws of spaces share is proved. No condition. Part of a proof. -/
import Derived.Test.YtfidemmgofcnmaaGreatDoorBz21
set_option maxHeartbeats 8000000
set_option maxRecDepth 100000
set_option linter.unusedVariables false
namespace Go.Proofs.YtfidemmgofcnmaaGreatDoor
open Go.RowKit Go.Proofs.Tryz
theorem Z3G{w:World}{s x y:Nat}{a0:Option Addr}{n cap:Nat}{A:Nat->Mv}{V:Nat->Int}{Q:Int->World->Prop}(hm:n<=4611686018427387904)(AW:n<=cap)
  (h:Calls prog 90 #[.pointer (some ⟨s,0,none⟩),.int .u32 x] w fun rv w1=>∃(g1:Nat) (f1:Int),rv=.returned (.tuple #[.agg #[.pointer (some ⟨g1,0,none⟩),.int .u32 x,.int .i64 f1],.int .i64 0]) /\
   Calls prog 90 #[.pointer (some ⟨s,0,none⟩),.int .u32 y] (w1.alloc (.cells #[.pointer (some ⟨g1,0,none⟩),.int .u32 x,.int .i64 f1] 191)) fun rv w2=>∃(g2:Nat) (f2:Int),rv=.returned (.tuple #[.agg #[.pointer (some ⟨g2,0,none⟩),.int .u32 y,.int .i64 f2],.int .i64 0]) /\
    ∃R B,J2z s g1 x g2 y f1 f2 w1.heap.size w2.heap.size a0 n cap A V R B Q/\R 0 (w2.alloc (.cells #[.pointer (some ⟨g2,0,none⟩),.int .u32 y,.int .i64 f2] 191))) :
  Calls prog 39 #[.pointer (some ⟨s,0,none⟩),.int .u32 x,.int .u32 y,.slice a0 n cap] w fun rv w'=>∃er:Int,rv=.returned (.int .i64 er)/\Q er w':=by
 go_enter func39,ntmps39;go_wp2_with fail;refine h.mono ?_;clear h;rintro rv w1⟨g1,f1,rfl,h⟩;go_wp2_with fail;refine h.mono ?_;clear h;rintro rv w2⟨g2,f2,rfl,R,B,hM,hR⟩;have HM:=Q0a hM;have HR:=Q0a hR;clear hM hR;generalize MX:w1.heap.size=B1 at *
 generalize E6:w2.heap.size=B2 at *
 go_wp2_with fail
 go_loopw [42] (fun iv wr=>∃k:Nat,k<=n/\iv=.int .i64 k/\(∀j,j<k->V j=0)/\R 0 wr) (fun iv _=>n-(intOf iv).toNat)
 case atStart=>exact⟨0,J5d _,rfl,by intro j hj;omega,HR.out⟩
 case round =>
  obtain⟨k,hk,rfl,A1,hr⟩:=hrel;have Hp:=Q0a A1;have EP:=Q0a hr;clear A1 hr HR;by_cases Aa:k<n
  ·obtain⟨⟨p0,p1,p2⟩,⟨o0,o1,o2⟩,BI⟩:=HM.out.held 0 _ EP.out;obtain⟨g,off,rfl,_,hc,_⟩:=BI k Aa;have c0:wr.cell? ⟨g,off+k*4,none⟩=some (.int .i64 (A k).src):=hc 0 _ rfl;have c1:wr.cell? ⟨g,off+k*4+1,none⟩=some (.int .i64 (A k).dst):=hc 1 _ rfl;have c2:wr.cell? ⟨g,off+k*4+2,none⟩=some (.int .i64 (A k).r):=hc 2 _ rfl;have c3:wr.cell? ⟨g,off+k*4+3,none⟩=some (.bool (A k).g):=hc 3 _ rfl;clear hc BI p0 p1 p2 o0 o1 o2;go_wp2_with fail;have HS:Hid (∀W,Below (wr.alloc (.cells #[.int .i64 (A k).src,.int .i64 (A k).dst,.int .i64 (A k).r,.bool (A k).g] 90)).heap.size (wr.alloc (.cells #[.int .i64 (A k).src,.int .i64 (A k).dst,.int .i64 (A k).r,.bool (A k).g] 90)) W->R 0 W/\(W.cell? ⟨B1,0,none⟩=some (.pointer (some ⟨g1,0,none⟩))/\W.cell? ⟨B1,1,none⟩=some (.int .u32 x)/\W.cell? ⟨B1,2,none⟩=some (.int .i64 f1)/\W.cell? ⟨B2,0,none⟩=some (.pointer (some ⟨g2,0,none⟩))/\W.cell? ⟨B2,1,none⟩=some (.int .u32 y)/\W.cell? ⟨B2,2,none⟩=some (.int .i64 f2)/\W.cell? ⟨wr.heap.size,0,none⟩=some (.int .i64 (A k).src)/\W.cell? ⟨wr.heap.size,1,none⟩=some (.int .i64 (A k).dst)/\W.cell? ⟨wr.heap.size,2,none⟩=some (.int .i64 (A k).r)/\W.cell? ⟨wr.heap.size,3,none⟩=some (.bool (A k).g))):=fun W hb=>by
    have hr:=HM.out.rel 0 _ _ EP.out (Q0b hb);obtain⟨⟨p0,p1,p2⟩,⟨o0,o1,o2⟩,_⟩:=HM.out.held 0 _ hr;have hc:=(Cells.new wr 90 [.int .i64 (A k).src,.int .i64 (A k).dst,.int .i64 (A k).r,.bool (A k).g]).same (hb.block _ (by simp));exact⟨hr,p0,p1,p2,o0,o1,o2,hc.cell 0 _ rfl,hc.cell 1 _ rfl,hc.cell 2 _ rfl,hc.cell 3 _ rfl⟩
   have hD:=HS.out _ (Below.refl _ _).drew;have kf:=HM.out.fits k _ Aa hD.1;have hE:=(HS.out _ (Below.refl _ _)).2;have hF:=hD.2;unfold Q1U Mv.agg at kf;have BE:(0:Int)<=(k:Int):=by omega
   have A5:(k:Int)<=(cap:Int):=by omega
   have Ax:(k:Int)<=(n:Int):=by omega
   clear hD c0 c1 c2 c3
   go_region_held3 (fun W=>W.cell? ⟨B1,0,none⟩=some (.pointer (some ⟨g1,0,none⟩))/\W.cell? ⟨B1,1,none⟩=some (.int .u32 x)/\W.cell? ⟨B1,2,none⟩=some (.int .i64 f1)/\W.cell? ⟨B2,0,none⟩=some (.pointer (some ⟨g2,0,none⟩))/\W.cell? ⟨B2,1,none⟩=some (.int .u32 y)/\W.cell? ⟨B2,2,none⟩=some (.int .i64 f2)/\W.cell? ⟨wr.heap.size,0,none⟩=some (.int .i64 (A k).src)/\W.cell? ⟨wr.heap.size,1,none⟩=some (.int .i64 (A k).dst)/\W.cell? ⟨wr.heap.size,2,none⟩=some (.int .i64 (A k).r)/\W.cell? ⟨wr.heap.size,3,none⟩=some (.bool (A k).g)) (first|exact hE|exact hF|exact hG)
    (first|(go_at_call 97;refine kf.mono ?_;rintro rv w3⟨rfl,Am⟩;have hH:=HS.out w3 ((Below.refl _ _).drew.trans (Am.mono (J3h _)));have Uy:=Q0a hH.1;have hG:=hH.2;clear hH Am))
   clear hE hF hG HS kf;by_cases hv:V k=0
   ·have HV:=Q0a hv;have L7:(V k != 0)=false:=by simp[hv]
    have UE:Hid (∀j,j<k+1->V j=0):=fun j hj=>by
     by_cases e:j=k
     ·rw[e];exact hv
     ·exact Hp.out j (by omega)
    clear hv;generalize V k=e at *
    obtain rfl:e=0:=HV.out;go_wp2_with fail;go_roundw
    case rel =>
     exact⟨k+1,by omega,by go_num,UE.out,Uy.out⟩
    case measure=>simp[intOf];omega
   ·have L7:(V k != 0)=true:=by simp[hv]
    have HX:=Q0a (HM.out.bad k _ Aa Uy.out hv Hp.out);generalize V k=e at *
    go_wp2_with fail
    (try go_ret);exact⟨_,rfl,HX.out⟩
  ·obtain rfl:k=n:=by omega
   have HR:=Q0a EP.out;clear EP;go_wp2_with fail
   go_loopw [60] (fun iv wr=>∃i:Nat,i<=k/\iv=.int .i64 i/\R i wr) (fun iv _=>k-(intOf iv).toNat)
   case atStart=>exact⟨0,J5d _,rfl,HR.out⟩
   case round =>
    obtain⟨i,hi,rfl,hr⟩:=hrel;have EP:=Q0a hr;clear hr HR;by_cases Aa:i<k
    ·obtain⟨⟨p0,p1,p2⟩,⟨o0,o1,o2⟩,BI⟩:=HM.out.held i _ EP.out;obtain⟨g,off,rfl,_,hc,_⟩:=BI i Aa;have c0:wr.cell? ⟨g,off+i*4,none⟩=some (.int .i64 (A i).src):=hc 0 _ rfl;have c1:wr.cell? ⟨g,off+i*4+1,none⟩=some (.int .i64 (A i).dst):=hc 1 _ rfl;have c2:wr.cell? ⟨g,off+i*4+2,none⟩=some (.int .i64 (A i).r):=hc 2 _ rfl;have c3:wr.cell? ⟨g,off+i*4+3,none⟩=some (.bool (A i).g):=hc 3 _ rfl;clear hc BI p0 p1 p2 o0 o1 o2;have HS:Hid (∀W,Below (wr.alloc (.cells #[.int .i64 (A i).src,.int .i64 (A i).dst,.int .i64 (A i).r,.bool (A i).g] 90)).heap.size (wr.alloc (.cells #[.int .i64 (A i).src,.int .i64 (A i).dst,.int .i64 (A i).r,.bool (A i).g] 90)) W->R i W/\(W.cell? ⟨B1,0,none⟩=some (.pointer (some ⟨g1,0,none⟩))/\W.cell? ⟨B1,1,none⟩=some (.int .u32 x)/\W.cell? ⟨B1,2,none⟩=some (.int .i64 f1)/\W.cell? ⟨B2,0,none⟩=some (.pointer (some ⟨g2,0,none⟩))/\W.cell? ⟨B2,1,none⟩=some (.int .u32 y)/\W.cell? ⟨B2,2,none⟩=some (.int .i64 f2)/\W.cell? ⟨wr.heap.size,0,none⟩=some (.int .i64 (A i).src)/\W.cell? ⟨wr.heap.size,1,none⟩=some (.int .i64 (A i).dst)/\W.cell? ⟨wr.heap.size,2,none⟩=some (.int .i64 (A i).r)/\W.cell? ⟨wr.heap.size,3,none⟩=some (.bool (A i).g))):=fun W hb=>by
      have hr:=HM.out.rel i _ _ EP.out (Q0b hb);obtain⟨⟨p0,p1,p2⟩,⟨o0,o1,o2⟩,_⟩:=HM.out.held i _ hr;have hc:=(Cells.new wr 90 [.int .i64 (A i).src,.int .i64 (A i).dst,.int .i64 (A i).r,.bool (A i).g]).same (hb.block _ (by simp));exact⟨hr,p0,p1,p2,o0,o1,o2,hc.cell 0 _ rfl,hc.cell 1 _ rfl,hc.cell 2 _ rfl,hc.cell 3 _ rfl⟩
     obtain⟨G6,p0,p1,p2,o0,o1,o2,m0,m1,m2,m3⟩:=HS.out _ (Below.refl _ _);obtain⟨ca,cb,cs,kc,Nk⟩:=HM.out.capK i _ Hp.out Aa G6;have MF:=Q0a Nk;clear Nk G6;unfold Q1U at kc;go_wp2_with fail;refine kc.mono ?_;rintro rv w3⟨rfl,Am⟩;have DC:=Q0a Am;clear kc Am p0 p1 p2 o0 o1 o2 m0 m1 m2 m3;obtain⟨Jx,-,-,-,-,-,-,-,-,m2,-⟩:=HS.out (w3.alloc (.cells #[.int .u32 ca,.int .i64 cb] 72)) (DC.out.alloc DC.out.size _);clear Jx;obtain⟨L1,p0,p1,p2,o0,o1,o2,m0,m1,m2',m3⟩:=HS.out (w3.alloc (.cells #[.int .u32 ca,.int .i64 (bits .and .i64 cb (A i).r)] 72)) (DC.out.alloc DC.out.size _);have kl:=MF.out _ L1
     unfold Q1U at kl;clear L1 MF;go_wp2_with fail;refine kl.mono ?_;clear kl p0 p1 p2 o0 o1 o2 m0 m1 m2 m2' m3 HS DC;rintro rv w5⟨er,rfl,⟨rfl,I0⟩|⟨Ac,As⟩⟩
     ·have LO:=Q0a I0;clear I0;go_wp2_with fail;go_roundw
      case rel=>exact⟨i+1,by omega,by go_num,LO.out⟩
      case measure=>simp[intOf];omega
     ·have Bp:(er != 0)=true:=by simp[Ac]
      have BQ:=Q0a As;have BH:(0:Int)<=(i:Int):=by omega
      have GX:(i:Int)<=(cap:Int):=by omega
      have DQ:(i:Int)<=(k:Int):=by omega
      clear As c0 c1 c2 c3;go_wp2_with fail
      go_loopg [90] i (fun gk iv wl=>∃j:Nat,iv=.int .i64 j/\j+gk=i/\B er i j wl)
      case atStart=>exact⟨0,rfl,by omega,BQ.out⟩
      case round =>
       obtain⟨j,rfl,EN,Tp⟩:=hrel;have Gh:=Q0a EN;have Nu:=Q0a Tp;clear EN Tp BQ;by_cases Gy:j<i
       ·obtain⟨⟨p0,p1,p2⟩,⟨o0,o1,o2⟩,BI⟩:=HM.out.heldB er i j _ Nu.out;obtain⟨g',off',Eu,_,hc,_⟩:=BI j (by omega);cases Eu;have c0:wr.cell? ⟨g,off+j*4,none⟩=some (.int .i64 (A j).src):=hc 0 _ rfl;have c1:wr.cell? ⟨g,off+j*4+1,none⟩=some (.int .i64 (A j).dst):=hc 1 _ rfl;have c2:wr.cell? ⟨g,off+j*4+2,none⟩=some (.int .i64 (A j).r):=hc 2 _ rfl;have c3:wr.cell? ⟨g,off+j*4+3,none⟩=some (.bool (A j).g):=hc 3 _ rfl;have Eg:=Q0a (HM.out.relB er i j _ _ Nu.out ((Below.refl wr.heap.size wr).alloc (J3h _) (.cells #[.int .i64 (A j).src,.int .i64 (A j).dst,.int .i64 (A j).r,.bool (A j).g] 90)));have kb:=HM.out.bare er i j _ Gy Eg.out
        unfold Q1U at kb;clear hc BI p0 p1 p2 o0 o1 o2;obtain⟨-,⟨o0,o1,o2⟩,-⟩:=HM.out.heldB er i j _ Eg.out;go_wp2_with fail;refine kb.mono ?_;rintro rv w7⟨rfl,Ge⟩;have Jd:=Q0a Ge;clear Ge kb c0 c1 c2 c3 o0 o1 o2 Eg Nu;go_wp2_with fail;go_roundg (i-(j+1))
        case measure=>have:=Gh.out;omega
        case rel=>exact⟨j+1,by go_num,by omega,Jd.out⟩
       ·obtain rfl:j=i:=by have:=Gh.out;omega
        have HX:=Q0a (HM.out.back er j _ Nu.out);clear Nu;go_wp2_with fail
        (try go_ret);exact⟨_,rfl,HX.out⟩
    ·obtain rfl:i=k:=by omega
     obtain⟨⟨p0,p1,p2⟩,⟨o0,o1,o2⟩,BI⟩:=HM.out.held i _ EP.out;have ks:=HM.out.settle _ Hp.out EP.out;unfold Q1U at ks;clear BI;go_wp2_with fail;refine ks.mono ?_;rintro rv w7⟨rfl,hq⟩;have HX:=Q0a hq;clear hq ks p0 p1 p2 o0 o1 o2 EP;go_wp2_with fail
     (try go_ret);exact⟨_,rfl,HX.out⟩
structure SetW(s g1 x g2 y:Nat)(f1 f2:Int)(F B1 B2:Nat)(a0:Option Addr)(n:Nat)(A:Nat->Mv)(R1 R2 RL:Nat->World->Prop)(Q:World->Prop):Prop where
 held1:∀k W,R1 k W->Box3 B1 g1 x f1 W/\Box3 B2 g2 y f2 W/\IsMv W a0 n A/\W.cell? ⟨s,1,none⟩=some (.pointer (some ⟨F,0,none⟩))
 rel1:∀k W W',R1 k W->Below W.heap.size W W'->R1 k W'
 node1:∀k W,k<n->R1 k W->∃id:Int,(∀W',Below W.heap.size W W'->Calls prog 156 #[.pointer (some ⟨s,0,none⟩),Q1U g1 x f1,.int .i64 (A k).src] W' (Told W' (.int .i64 id))) /\
  ∀W',Below W.heap.size W W'->Calls prog 105 #[.pointer (some ⟨F,0,none⟩),.int .i64 id,.int .i64 y,.int .i64 (A k).dst] W' fun rv w5=>(∃a b:Value,rv=.returned (.tuple #[a,b]))/\(∀b,W.heap.size<=b->b<W'.heap.size->w5.heap[b]?=W'.heap[b]?)/\R1 (k+1) w5
 mid:∀W,R1 n W->R2 0 W
 held2:∀k W,R2 k W->Box3 B1 g1 x f1 W/\Box3 B2 g2 y f2 W/\IsMv W a0 n A/\W.cell? ⟨s,1,none⟩=some (.pointer (some ⟨F,0,none⟩))
 rel2:∀k W W',R2 k W->Below W.heap.size W W'->R2 k W'
 skip:∀k W,k<n->(A k).g=false->R2 k W->R2 (k+1) W
 node2:∀k W,k<n->(A k).g=true->R2 k W->∃id:Int,(∀W',Below W.heap.size W W'->Calls prog 156 #[.pointer (some ⟨s,0,none⟩),Q1U g1 x f1,.int .i64 (A k).src] W' (Told W' (.int .i64 id))) /\
  ∀W',Below W.heap.size W W'->Calls prog 174 #[.pointer (some ⟨F,0,none⟩),.int .i64 id] W' fun rv w5=>(∃v,rv=.returned v)/\(∀b,W.heap.size<=b->b<W'.heap.size->w5.heap[b]?=W'.heap[b]?)/\RL k w5
 heldL:∀k W,RL k W->Box3 B1 g1 x f1 W/\Box3 B2 g2 y f2 W/\IsMv W a0 n A/\W.cell? ⟨s,1,none⟩=some (.pointer (some ⟨F,0,none⟩))
 relL:∀k W W',RL k W->Below W.heap.size W W'->RL k W'
 bare:∀k W,k<n->RL k W->Calls prog 99 #[.pointer (some ⟨s,0,none⟩),Q1U g1 x f1,.int .i64 (A k).src] W fun rv w5=>rv=.returned (.tuple #[])/\R2 (k+1) w5
 last:∀W,R2 n W->Q W
theorem Q9F{w:World}{s g1 x g2 y:Nat}{f1 f2:Int}{F:Nat}{a0:Option Addr}{n cap:Nat}{A:Nat->Mv}{R1 R2 RL:Nat->World->Prop}{Q:World->Prop}
  (hW:SetW s g1 x g2 y f1 f2 F w.heap.size (w.heap.size+1) a0 n A R1 R2 RL Q) (hm:n<=4611686018427387904) (hy:y<4294967296)
  (h0:R1 0 ((w.alloc (.cells #[.pointer (some ⟨g1,0,none⟩),.int .u32 x,.int .i64 f1] 191)).alloc (.cells #[.pointer (some ⟨g2,0,none⟩),.int .u32 y,.int .i64 f2] 191))) :
  Calls prog 100 #[.pointer (some ⟨s,0,none⟩),Q1U g1 x f1,Q1U g2 y f2,.slice a0 n cap] w fun rv w'=>rv=.returned (.tuple #[])/\Q w':=by
 have HW:=Q0a hW;have HR:=Q0a h0;clear hW h0;unfold Q1U;go_enter func100,ntmps100;go_wp2_with fail;generalize MX:w.heap.size=B1 at *
 have Ng:IntKind.i64.wrap (y:Int)=(y:Int):=Go.IntWalk.i64_in _ (by omega)
 go_loopg [14] n (fun gk iv wl=>∃k:Nat,iv=.int .i64 k/\k+gk=n/\R1 k wl)
 case atStart=>exact⟨0,rfl,by omega,HR.out⟩
 case round =>
  obtain⟨k,rfl,BR,hr⟩:=hrel;have J3:=Q0a BR;have EP:=Q0a hr;clear BR hr HR;by_cases Aa:k<n
  ·obtain⟨⟨p0,p1,p2⟩,⟨o0,o1,o2⟩,BI,CN⟩:=HW.out.held1 k _ EP.out;obtain⟨g,off,rfl,_,hc,_⟩:=BI k Aa;have c0:wr.cell? ⟨g,off+k*4,none⟩=some (.int .i64 (A k).src):=hc 0 _ rfl;have c1:wr.cell? ⟨g,off+k*4+1,none⟩=some (.int .i64 (A k).dst):=hc 1 _ rfl;have c2:wr.cell? ⟨g,off+k*4+2,none⟩=some (.int .i64 (A k).r):=hc 2 _ rfl;have c3:wr.cell? ⟨g,off+k*4+3,none⟩=some (.bool (A k).g):=hc 3 _ rfl;clear hc BI p0 p1 p2 o0 o1 o2 CN;have X4:(0:Int)<=(y:Int):=by omega
   have XN:(y:Int)<4294967296:=by omega
   go_wp2_with fail;have BO:Hid (∀W5:World,R1 (k+1) W5->Cells W5 wr.heap.size 90 [.int .i64 (A k).src,.int .i64 (A k).dst,.int .i64 (A k).r,.bool (A k).g]->(W5.cell? ⟨s,1,none⟩=some (.pointer (some ⟨F,0,none⟩))/\W5.cell? ⟨B1,0,none⟩=some (.pointer (some ⟨g1,0,none⟩))/\W5.cell? ⟨B1,1,none⟩=some (.int .u32 x)/\W5.cell? ⟨B1,2,none⟩=some (.int .i64 f1)/\W5.cell? ⟨B1+1,1,none⟩=some (.int .u32 y)/\W5.cell? ⟨wr.heap.size,0,none⟩=some (.int .i64 (A k).src)/\W5.cell? ⟨wr.heap.size,1,none⟩=some (.int .i64 (A k).dst))):=fun W5 hr hc=>by
    obtain⟨⟨p0,p1,p2⟩,⟨o0,o1,o2⟩,_,CN⟩:=HW.out.held1 (k+1) _ hr;exact⟨CN,p0,p1,p2,o1,hc.cell 0 _ rfl,hc.cell 1 _ rfl⟩
   have BZ:=Q0a (Cells.new wr 90 [.int .i64 (A k).src,.int .i64 (A k).dst,.int .i64 (A k).r,.bool (A k).g]);have BN:Hid (∀W,Below (wr.alloc (.cells #[.int .i64 (A k).src,.int .i64 (A k).dst,.int .i64 (A k).r,.bool (A k).g] 90)).heap.size (wr.alloc (.cells #[.int .i64 (A k).src,.int .i64 (A k).dst,.int .i64 (A k).r,.bool (A k).g] 90)) W->Below wr.heap.size wr W/\(W.cell? ⟨s,1,none⟩=some (.pointer (some ⟨F,0,none⟩))/\W.cell? ⟨B1,0,none⟩=some (.pointer (some ⟨g1,0,none⟩))/\W.cell? ⟨B1,1,none⟩=some (.int .u32 x)/\W.cell? ⟨B1,2,none⟩=some (.int .i64 f1)/\W.cell? ⟨B1+1,1,none⟩=some (.int .u32 y)/\W.cell? ⟨wr.heap.size,0,none⟩=some (.int .i64 (A k).src)/\W.cell? ⟨wr.heap.size,1,none⟩=some (.int .i64 (A k).dst))):=fun W hb=>by
    have Al:=Q0b hb;have hr:=HW.out.rel1 k _ _ EP.out Al;obtain⟨⟨p0,p1,p2⟩,⟨o0,o1,o2⟩,_,CN⟩:=HW.out.held1 k _ hr;have hc:=(Cells.new wr 90 [.int .i64 (A k).src,.int .i64 (A k).dst,.int .i64 (A k).r,.bool (A k).g]).same (hb.block _ (by simp));exact⟨Al,CN,p0,p1,p2,o1,hc.cell 0 _ rfl,hc.cell 1 _ rfl⟩
   obtain⟨id,EM,AZ⟩:=HW.out.node1 k _ Aa EP.out;have EC:=Q0a EM;have D4:=Q0a AZ;have hE:=(BN.out _ (Below.refl _ _)).2;have hD:=(BN.out _ (Below.refl _ _).drew)
   have kn:=EC.out _ hD.1;have hF:=hD.2;unfold Q1U at kn;clear EM AZ c0 c1 c2 c3 hD
   go_region_held3 (fun W=>W.cell? ⟨s,1,none⟩=some (.pointer (some ⟨F,0,none⟩))/\W.cell? ⟨B1,0,none⟩=some (.pointer (some ⟨g1,0,none⟩))/\W.cell? ⟨B1,1,none⟩=some (.int .u32 x)/\W.cell? ⟨B1,2,none⟩=some (.int .i64 f1)/\W.cell? ⟨B1+1,1,none⟩=some (.int .u32 y)/\W.cell? ⟨wr.heap.size,0,none⟩=some (.int .i64 (A k).src)/\W.cell? ⟨wr.heap.size,1,none⟩=some (.int .i64 (A k).dst)) (first|exact hE|exact hF|exact hG|exact LP)
    (first|(go_at_call 156;refine kn.mono ?_;rintro rv w3⟨rfl,Am⟩;have hH:=BN.out w3 ((Below.refl _ _).drew.trans (Am.mono (J3h _)));have ka:=D4.out w3 hH.1;have hG:=hH.2;have Ct:=Q0a (BZ.out.same (Am.block _ (by simp)));clear hH Am)|(go_at_call 105;refine ka.mono ?_;rintro rv w5⟨⟨ra,rb,rfl⟩,Ms,I0⟩;have LP:=BO.out w5 I0 (Ct.out.same (Ms _ (J3h _) Ct.out.lt));have LO:=Q0a I0;clear I0 Ms))
   clear hE hF hG LP BN EC D4 ka BO BZ Ct;go_wp2_with fail;go_roundg (n-(k+1))
   case measure=>have:=J3.out;omega
   case rel=>exact⟨k+1,by go_num,by omega,LO.out⟩
  ·obtain rfl:k=n:=by have:=J3.out;omega
   have Eg:=Q0a (HW.out.mid _ EP.out);clear EP;go_wp2_with fail
   go_loopg [36] k (fun gk iv wl=>∃i:Nat,iv=.int .i64 i/\i+gk=k/\R2 i wl)
   case atStart=>exact⟨0,rfl,by omega,Eg.out⟩
   case round =>
    obtain⟨i,rfl,Jm,hr⟩:=hrel;have PA:=Q0a Jm;have Ks:=Q0a hr;clear Jm hr Eg;by_cases Aa:i<k
    ·obtain⟨-,-,BI,-⟩:=HW.out.held2 i _ Ks.out;obtain⟨g,off,rfl,_,hc,_⟩:=BI i Aa;have c0:wr.cell? ⟨g,off+i*4,none⟩=some (.int .i64 (A i).src):=hc 0 _ rfl;have c1:wr.cell? ⟨g,off+i*4+1,none⟩=some (.int .i64 (A i).dst):=hc 1 _ rfl;have c2:wr.cell? ⟨g,off+i*4+2,none⟩=some (.int .i64 (A i).r):=hc 2 _ rfl;have c3:wr.cell? ⟨g,off+i*4+3,none⟩=some (.bool (A i).g):=hc 3 _ rfl;clear hc BI;have Bv:Below wr.heap.size wr (wr.alloc (.cells #[.int .i64 (A i).src,.int .i64 (A i).dst,.int .i64 (A i).r,.bool (A i).g] 90)):=(Below.refl _ _).alloc (J3h _) _;by_cases hg:(A i).g=true
     ·have BN:Hid (∀W,Below (wr.alloc (.cells #[.int .i64 (A i).src,.int .i64 (A i).dst,.int .i64 (A i).r,.bool (A i).g] 90)).heap.size (wr.alloc (.cells #[.int .i64 (A i).src,.int .i64 (A i).dst,.int .i64 (A i).r,.bool (A i).g] 90)) W->Below wr.heap.size wr W/\(W.cell? ⟨s,1,none⟩=some (.pointer (some ⟨F,0,none⟩))/\W.cell? ⟨B1,0,none⟩=some (.pointer (some ⟨g1,0,none⟩))/\W.cell? ⟨B1,1,none⟩=some (.int .u32 x)/\W.cell? ⟨B1,2,none⟩=some (.int .i64 f1)/\W.cell? ⟨wr.heap.size,0,none⟩=some (.int .i64 (A i).src))):=fun W hb=>by
       have Al:=Q0b hb;have hr:=HW.out.rel2 i _ _ Ks.out Al;obtain⟨⟨p0,p1,p2⟩,_,_,CN⟩:=HW.out.held2 i _ hr;have hc:=(Cells.new wr 90 [.int .i64 (A i).src,.int .i64 (A i).dst,.int .i64 (A i).r,.bool (A i).g]).same (hb.block _ (by simp));exact⟨Al,CN,p0,p1,p2,hc.cell 0 _ rfl⟩
      obtain⟨id,EM,J9⟩:=HW.out.node2 i _ Aa hg Ks.out;have EC:=Q0a EM;have EH:=Q0a J9;have hE:=(BN.out _ (Below.refl _ _)).2;have hD:=(BN.out _ (Below.refl _ _).drew)
      have kn:=EC.out _ hD.1;have hF:=hD.2;rw[hg] at c3;unfold Q1U at kn;clear EM J9 hD Bv;have BZ:=Q0a (Cells.new wr 90 [.int .i64 (A i).src,.int .i64 (A i).dst,.int .i64 (A i).r,.bool (A i).g]);have BO:Hid (∀W5:World,RL i W5->Cells W5 wr.heap.size 90 [.int .i64 (A i).src,.int .i64 (A i).dst,.int .i64 (A i).r,.bool (A i).g]->(W5.cell? ⟨s,1,none⟩=some (.pointer (some ⟨F,0,none⟩))/\W5.cell? ⟨B1,0,none⟩=some (.pointer (some ⟨g1,0,none⟩))/\W5.cell? ⟨B1,1,none⟩=some (.int .u32 x)/\W5.cell? ⟨B1,2,none⟩=some (.int .i64 f1)/\W5.cell? ⟨wr.heap.size,0,none⟩=some (.int .i64 (A i).src))):=fun W5 hr hc=>by
       obtain⟨⟨p0,p1,p2⟩,_,_,CN⟩:=HW.out.heldL i _ hr;exact⟨CN,p0,p1,p2,hc.cell 0 _ rfl⟩
      have Ez:Hid (∀W,RL i W->_):=fun W=>HW.out.bare i W Aa
      rw[hg] at BN BZ BO kn hE hF;have HG:=Q0a hg;clear hg;go_wp2_with fail
      go_region_held3 (fun W=>W.cell? ⟨s,1,none⟩=some (.pointer (some ⟨F,0,none⟩))/\W.cell? ⟨B1,0,none⟩=some (.pointer (some ⟨g1,0,none⟩))/\W.cell? ⟨B1,1,none⟩=some (.int .u32 x)/\W.cell? ⟨B1,2,none⟩=some (.int .i64 f1)/\W.cell? ⟨wr.heap.size,0,none⟩=some (.int .i64 (A i).src)) (first|exact hE|exact hF|exact hG|exact LP)
       (first|(go_at_call 156;refine kn.mono ?_;rintro rv w3⟨rfl,Am⟩;have hH:=BN.out w3 ((Below.refl _ _).drew.trans (Am.mono (J3h _)));have ka:=EH.out w3 hH.1;have hG:=hH.2;have Ct:=Q0a (BZ.out.same (Am.block _ (by simp)));clear hH Am)|(go_at_call 174;refine ka.mono ?_;rintro rv w5⟨⟨v5,rfl⟩,Ms,I0⟩;have LP:=BO.out w5 I0 (Ct.out.same (Ms _ (J3h _) Ct.out.lt));have LO:=Q0a I0;clear I0 Ms))
      have kb:=Ez.out w5 LO.out;unfold Q1U at kb;clear hE hF hG BN EC EH ka BO BZ Ct LO;obtain⟨d0,d1,d2,d3,d4⟩:=LP;go_wp2_with fail;refine kb.mono ?_;rintro rv w7⟨rfl,TO⟩;have WY:=Q0a TO;clear TO kb d0 d1 d2 d3 d4 Ez;go_wp2_with fail;go_roundg (k-(i+1))
      case measure=>have:=PA.out;omega
      case rel=>exact⟨i+1,by go_num,by omega,WY.out⟩
     ·have Lw:(A i).g=false:=by simpa using hg
      have HX:=Q0a (HW.out.rel2 _ _ _ (HW.out.skip i _ Aa Lw Ks.out) Bv);rw[Lw] at c3 HX;clear hg Lw Bv Ks;go_wp2_with fail;go_roundg (k-(i+1))
      case measure=>have:=PA.out;omega
      case rel=>exact⟨i+1,by go_num,by omega,HX.out⟩
    ·obtain rfl:i=k:=by have:=PA.out;omega
     have HX:=Q0a (HW.out.last _ Ks.out);clear Ks;go_wp2_with fail
     first|exact⟨rfl,HX.out⟩|(go_end0;exact⟨rfl,HX.out⟩)
section
variable {Z:SP} {fr:List Nat} {N K:Nat} {M:Int} {x y n:Nat} {p1 p2:Pl} {A:Nat->Mv}
structure GrP(Z:SP)(fr:List Nat)(N K:Nat)(M:Int)(x y n:Nat)(A:Nat->Mv)(k:Nat)(Z2:SP):Prop where
 ok:Z2.Ok fr N K (M+n)
 same:SameN Z Z2
 nx:Z2.F.next=Z.F.next+n
 av:∃a,AddsM x y A Z.av Z.F.next n a/\Q2j x A a k Z2.av
 src:∀i,k<=i->i<n->(A i).g=true->∃c,Z2.av.en x (A i).src.toNat=some c
theorem GrP.start(ok:Z.Ok fr N K M)(A3:pget Z.S.l 1 x=some p1)(A5:p1.kind=2)(Az:pget Z.S.l 1 y=some p2)(Ax:p2.kind=2)(Af:AllFit Z.av.en x y n A){S1:CO}{t1:TB}{own:Int}(L:LaidP Z fr N K x y own A 0 n S1 t1){F':FO}(P:SetP Z x y A t1 n F') :
  GrP Z fr N K M x y n A 0 ((Z.setF F').setS S1 (updT Z.tb (y%256) t1)):=by
 obtain⟨h1,h2,h3⟩:=P.done ok L;refine⟨h1,h2,by show F'.next=_;exact P.nx,⟨_,h3,.zero⟩,fun i _ hi _=>?_⟩;obtain⟨e,he,DZ,_,_⟩:=L.src A3 A5 Az Ax Af (J3h _) hi;refine⟨(e.h,e.r),Z6q (e:=e) ?_⟩;show Q0f S1.l (updT Z.tb (y%256) t1) x (A i).src.toNat=some e;rw[L.alt.l,Q0h A3 A5 (by have:=(Af i hi).1.src;omega)];exact DZ
theorem GrP.skip{k:Nat}{Z2:SP}(G:GrP Z fr N K M x y n A k Z2)(hg:(A k).g=false):GrP Z fr N K M x y n A (k+1) Z2:=by
 obtain⟨a,h1,h2⟩:=G.av;exact⟨G.ok,G.same,G.nx,⟨a,h1,.skip k _ h2 hg⟩,fun i h=>G.src i (by omega)⟩
theorem GrP.lift(Af:AllFit Z.av.en x y n A){k:Nat}{Z2:SP}(G:GrP Z fr N K M x y n A k Z2)(Do:k<n)(hg:(A k).g=true)(A3:pget Z.S.l 1 x=some p1)(A5:p1.kind=2) :
  ∃nd e,find Z2.F.N nd.id=some nd/\ownN Z2.F.N (x:Int) (A k).src=nd.id/\(Z2.tb (x%256)).en (A k).src.toNat=some e/\∀(S':CO) (t':TB) (F':FO),TurnP Z2.S fr N K Z2.tb (p1.fac:Int) (x%256) (A k).src.toNat none S' t'->F'.N=Q0F Z2.F.N nd nd.q.ks.length->F'.Ok->F'.next=Z2.F.next->F'.f=Z2.F.f->GrP Z fr N K M x y n A (k+1) ((Z2.setF F').setS S' (updT Z2.tb (x%256) t')):=by
 have BJ:=(Af k Do).1.src;obtain⟨c,hc⟩:=G.src k (J3h _) Do hg;obtain⟨e,he,rfl⟩:=Q8g hc;have D3:Z2.S.l=Z.S.l:=G.same.alt.l;have Jb:pget Z2.S.l 1 x=some p1:=by rw[D3];exact A3
 obtain⟨nd,AP,q1,q2,q3,q4⟩:=G.ok.fpi.own G.ok.fo.n he;have Ci:((A k).src.toNat:Int)=(A k).src:=by omega
 have BF:(Z2.tb (x%256)).en (A k).src.toNat=some e:=by
  have AD:=he
  rwa [Q0h Jb A5 (by omega)] at AD
 refine⟨nd,e,q4,by rw[<- Ci];exact q3,BF,fun S' t' F' T hF EJ IY Gq=>?_⟩;have hr:=(G.ok.fpi.cap _ _ _ he).r;obtain⟨h1,h2,h3⟩:=G.ok.lifted q4 q1 q2 Jb A5 (by omega:(A k).src.toNat<256) he (m:=15) (Q8d e.r (by omega)) T hF EJ IY Gq;obtain⟨a,a1,a2⟩:=G.av;have hw:=Q4L (m:=15) (a:=Z2.av) (id:=nd.id) q4 q1 q2 hc;rw[h2] at hw;simp only at hw;rw[if_pos (Q8d e.r (by omega))] at hw;have Dd:((Z2.setF F').setS S' (updT Z2.tb (x%256) t')).av.en=setA Z2.av.en x (A k).src.toNat none:=by
  have:=(Prod.mk.inj hw).1;rw[this]
 refine⟨h1,G.same.trans h3.toSameN,h3.nx.trans G.nx,⟨a,a1,.lift k _ _ a2 hg ?_⟩,fun i h4 h5 h6=>?_⟩
 ·have:ownN Z2.av.N (x:Int) (A k).src=nd.id:=by rw[<- Ci];exact q3
  rw[this];exact h2
 ·obtain⟨c',Bo⟩:=G.src i (by omega) h5 h6;refine⟨c',?_⟩;rw[Dd,Q5U]
  ·exact Bo
  ·rintro⟨_,e2⟩;exact Af.srcs h5 Do (by omega) h6 e2
theorem GrP.done{w w':World}{Z2:SP}(G:GrP Z fr N K M x y n A n Z2)(st:Step Z.hl Z2.hl w w'):Q9E Z fr N K M x y n A w w':=by
 obtain⟨a,a1,a2⟩:=G.av;exact⟨a,Z2,a1,a2,G.ok,G.same,G.nx,st⟩
theorem Z9o{w0:World}(ok:Z.Ok fr N K M)(hM:M+n<1099511627776)(hx:x<4294967296)(hy:y<4294967296)(A3:pget Z.S.l 1 x=some p1)(A5:p1.kind=2)(Az:pget Z.S.l 1 y=some p2)(Ax:p2.kind=2)(Af:AllFit Z.av.en x y n A){S1:CO}{t1:TB}(L:LaidP Z fr N K x y (p2.fac:Int) A 0 n S1 t1)(cap g1 g2 B1 B2:Nat)(a0:Option Addr) :
  SetW Z.s g1 x g2 y (p1.fac:Int) (p2.fac:Int) Z.F.f B1 B2 a0 n A
   (fun k W=>∃F',SetP Z x y A t1 k F'/\Step Z.hl ((Z.setF F').setS S1 (updT Z.tb (y%256) t1)).hl w0 W/\MvB ((Z.setF F').setS S1 (updT Z.tb (y%256) t1)) p1 p2 g1 x g2 y B1 B2 n A a0 W)
   (fun k W=>∃Z2,GrP Z fr N K M x y n A k Z2/\Step Z.hl Z2.hl w0 W/\MvB Z2 p1 p2 g1 x g2 y B1 B2 n A a0 W)
   (fun k W=>∃Z2 nd e F',GrP Z fr N K M x y n A k Z2/\find Z2.F.N nd.id=some nd/\ownN Z2.F.N (x:Int) (A k).src=nd.id/\(Z2.tb (x%256)).en (A k).src.toNat=some e/\F'.N=Q0F Z2.F.N nd nd.q.ks.length/\F'.Ok/\F'.next=Z2.F.next/\F'.f=Z2.F.f/\(∀(S':CO) (t':TB),TurnP Z2.S fr N K Z2.tb (p1.fac:Int) (x%256) (A k).src.toNat none S' t'->GrP Z fr N K M x y n A (k+1) ((Z2.setF F').setS S' (updT Z2.tb (x%256) t')))/\Step Z.hl (Z2.setF F').hl w0 W/\MvB (Z2.setF F') p1 p2 g1 x g2 y B1 B2 n A a0 W)
   (fun W=>Q9E Z fr N K M x y n A w0 W):=by
 have GX:=(pget_some.1 A3).1;have GP:=(pget_some.1 A3).2.2;refine⟨fun k W h=>?_,fun k W W' h hb=>?_,fun k W hk h=>?_,fun W h=>?_,fun k W h=>?_,fun k W W' h hb=>?_,fun k W hk hg h=>?_,fun k W hk hg h=>?_,fun k W h=>?_,fun k W W' h hb=>?_,fun k W hk h=>?_,fun W h=>?_⟩
 ·obtain⟨F',P,st,mb⟩:=h;refine⟨mb.box.1,mb.box.2.1,mb.box.2.2,?_⟩;have:=SP.c1 (Z:=(Z.setF F').setS S1 (updT Z.tb (y%256) t1)) st.sep;rw[show((Z.setF F').setS S1 (updT Z.tb (y%256) t1)).F.f=Z.F.f from P.f] at this;exact this
 ·obtain⟨F',P,st,mb⟩:=h;exact⟨F',P,st.trans (st.sep.grown hb),mb.step (st.sep.grown hb) rfl⟩
 ·obtain⟨F',P,st,mb⟩:=h;have BJ:=(Af k hk).1.src;have I1:=(Af k hk).1.dst;have Ci:(((A k).src.toNat:Nat):Int)=(A k).src:=by omega
  have Hc:(((A k).dst.toNat:Nat):Int)=(A k).dst:=by omega
  refine⟨ownN F'.N (x:Int) (A k).src,fun W' hb=>?_,fun W' hb=>?_⟩
  ·have kn:=Q6h (Z:=(Z.setF F').setS S1 (updT Z.tb (y%256) t1)) (st.sep.grown hb).sep P.ok hx (z:=(A k).src.toNat) (g:=g1) (f:=p1.fac) (by omega);rw[Ci] at kn;exact kn
  ·have st':=st.trans (st.sep.grown hb);have mb':=mb.step (st.sep.grown hb) rfl;obtain⟨e0,e,Cu,he,rfl,Bq⟩:=SetP.src Af hk A3 A5 Az Ax P;obtain⟨nn,G0,q1,q2,q3,q4⟩:=P.fpi.own P.ok.n he;rw[Ci] at q3;have Aw:=P.fpi.free P.ok.n Bq;rw[Hc] at Aw;have Cy:=P.fpi.few P.ok.n Az (by omega) Bq;have Bs:=P.nx;have B9:=ok.next;have ka:=Q8f (SP.sF (Z:=(Z.setF F').setS S1 (updT Z.tb (y%256) t1)) st'.sep) P.ok (par:=ownN F'.N (x:Int) (A k).src) (sp:=(y:Int)) (sl:=(A k).dst) (.inr ⟨nn,by rw[q3];exact q4⟩) (by omega) (by omega) (by omega) (by omega) Aw (by show F'.next+1<_;omega) Cy
   rw[show((Z.setF F').setS S1 (updT Z.tb (y%256) t1)).F.f=Z.F.f from P.f] at ka;refine ka.mono ?_;rintro rv w5⟨rfl,F2,Ad,stf⟩;have P2:=P.next ok Af L hk A3 A5 Az Ax Ad;have stz:=SP.stepF (Z:=(Z.setF F').setS S1 (updT Z.tb (y%256) t1)) st'.sep F2 Ad.f stf;have stz':Step ((Z.setF F').setS S1 (updT Z.tb (y%256) t1)).hl ((Z.setF F2).setS S1 (updT Z.tb (y%256) t1)).hl W' w5:=stz;exact⟨⟨_,_,rfl⟩,stz'.keep st.sep (J3h _),F2,P2,st'.trans stz',mb'.step (Z':=(Z.setF F2).setS S1 (updT Z.tb (y%256) t1)) stz' rfl⟩
 ·obtain⟨F',P,st,mb⟩:=h;exact⟨_,GrP.start ok A3 A5 Az Ax Af L P,st,mb⟩
 ·obtain⟨Z2,G,st,mb⟩:=h;refine⟨mb.box.1,mb.box.2.1,mb.box.2.2,?_⟩;have:=SP.c1 st.sep;rw[G.same.s,G.same.f] at this;exact this
 ·obtain⟨Z2,G,st,mb⟩:=h;exact⟨Z2,G,st.trans (st.sep.grown hb),mb.step (st.sep.grown hb) rfl⟩
 ·obtain⟨Z2,G,st,mb⟩:=h;exact⟨Z2,G.skip hg,st,mb⟩
 ·obtain⟨Z2,G,st,mb⟩:=h;have BJ:=(Af k hk).1.src;have Ci:(((A k).src.toNat:Nat):Int)=(A k).src:=by omega
  refine⟨ownN Z2.F.N (x:Int) (A k).src,fun W' hb=>?_,fun W' hb=>?_⟩
  ·have kn:=Q6h (st.sep.grown hb).sep G.ok.fo hx (z:=(A k).src.toNat) (g:=g1) (f:=p1.fac) (by omega);rw[Ci,G.same.s] at kn;exact kn
  ·have st':=st.trans (st.sep.grown hb);have mb':=mb.step (st.sep.grown hb) rfl;obtain⟨nd,e,h1,h2,h3,h4⟩:=G.lift Af hk hg A3 A5;have kl:=Q9s (SP.sF st'.sep) G.ok.fo (e:=nd) h1;rw[h2,<- G.same.f];refine kl.mono ?_;rintro rv w5⟨hv,F',Gq,Pa,IY,EJ,stf⟩;have stz:=SP.stepF st'.sep F' Gq stf;exact⟨hv,stz.keep st.sep (J3h _),Z2,nd,e,F',G,h1,h2,h3,Pa,EJ,IY,Gq,fun S' t' T=>h4 S' t' F' T Pa EJ IY Gq,st'.trans stz,mb'.step (Z':=Z2.setF F') stz rfl⟩
 ·obtain⟨Z2,nd,e,F',G,_,_,_,hF,_,_,Gq,_,st,mb⟩:=h;refine⟨mb.box.1,mb.box.2.1,mb.box.2.2,?_⟩;have:=SP.c1 (Z:=Z2.setF F') st.sep;rw[show(Z2.setF F').F.f=Z2.F.f from Gq,show(Z2.setF F').s=Z.s from G.same.s,G.same.f] at this;exact this
 ·obtain⟨Z2,nd,e,F',h1,h2,h3,h4,h5,h6,h7,h8,h9,st,mb⟩:=h;exact⟨Z2,nd,e,F',h1,h2,h3,h4,h5,h6,h7,h8,h9,st.trans (st.sep.grown hb),mb.step (st.sep.grown hb) rfl⟩
 ·obtain⟨Z2,nd,e,F',G,h2,h3,BF,h5,h6,h7,h8,h9,st,mb⟩:=h;have BJ:=(Af k hk).1.src;have kb:=Q4q (Z:=Z2.setF F') st.sep G.ok.core G.ok.tpi (i:=x%256) (s:=(A k).src.toNat) (x:=x) (g:=g1) (p:=p1) (by show Z2.S.l[_]?=_;rw[G.same.alt.l];exact GX) GP A5 (by omega) BF mb.t1;rw[show(((A k).src.toNat:Nat):Int)=(A k).src by omega,show(Z2.setF F').s=Z.s from G.same.s] at kb;refine kb.mono ?_;rintro rv w5⟨rfl,S3,t3,T,stt⟩;refine⟨rfl,_,h9 S3 t3 T,st.trans stt,?_⟩;exact mb.step (Z':=(Z2.setF F').setS S3 (updT Z2.tb (x%256) t3)) stt T.alt.same.p
 ·obtain⟨Z2,G,st,mb⟩:=h;exact G.done st
theorem Z0P{w0 w:World}(ok:Z.Ok fr N K M)(hM:M+n<1099511627776)(hx:x<4294967296)(hy:y<4294967296)(A3:pget Z.S.l 1 x=some p1)(A5:p1.kind=2)(Az:pget Z.S.l 1 y=some p2)(Ax:p2.kind=2)(hn:n<=4611686018427387904)(Af:AllFit Z.av.en x y n A){S1:CO}{t1:TB}(L:LaidP Z fr N K x y (p2.fac:Int) A 0 n S1 t1)
  {g1 g2:Nat} {a0:Option Addr} (st:Step Z.hl (Z.setS S1 (updT Z.tb (y%256) t1)).hl w0 w) (Id:TblZ (Z.setS S1 (updT Z.tb (y%256) t1)) p1 g1 w) (I8:TblZ (Z.setS S1 (updT Z.tb (y%256) t1)) p2 g2 w) (BI:AsideM (Z.setS S1 (updT Z.tb (y%256) t1)).hl n A a0 w) (cap:Nat) :
  Calls prog 100 #[.pointer (some ⟨Z.s,0,none⟩),Q1U g1 x (p1.fac:Int),Q1U g2 y (p2.fac:Int),.slice a0 n cap] w fun rv w'=>rv=.returned (.tuple #[])/\Q9E Z fr N K M x y n A w0 w':=by
 have b1:Below w.heap.size w (w.alloc (.cells #[.pointer (some ⟨g1,0,none⟩),.int .u32 x,.int .i64 (p1.fac:Int)] 191)):=(Below.refl _ _).alloc (J3h _) _;have s1:=st.sep.grown b1;have as1:AsideV (Z.setS S1 (updT Z.tb (y%256) t1)).hl [.pointer (some ⟨g1,0,none⟩),.int .u32 x,.int .i64 (p1.fac:Int)] (some ⟨w.heap.size,0,none⟩) (w.alloc (.cells #[.pointer (some ⟨g1,0,none⟩),.int .u32 x,.int .i64 (p1.fac:Int)] 191)):=Q3u st.sep _ _;have b2:Below (w.alloc (.cells #[.pointer (some ⟨g1,0,none⟩),.int .u32 x,.int .i64 (p1.fac:Int)] 191)).heap.size (w.alloc (.cells #[.pointer (some ⟨g1,0,none⟩),.int .u32 x,.int .i64 (p1.fac:Int)] 191)) ((w.alloc (.cells #[.pointer (some ⟨g1,0,none⟩),.int .u32 x,.int .i64 (p1.fac:Int)] 191)).alloc (.cells #[.pointer (some ⟨g2,0,none⟩),.int .u32 y,.int .i64 (p2.fac:Int)] 191)):=(Below.refl _ _).alloc (J3h _) _
 have s2:=s1.sep.grown b2;have as2:AsideV (Z.setS S1 (updT Z.tb (y%256) t1)).hl [.pointer (some ⟨g2,0,none⟩),.int .u32 y,.int .i64 (p2.fac:Int)] (some ⟨(w.alloc (.cells #[.pointer (some ⟨g1,0,none⟩),.int .u32 x,.int .i64 (p1.fac:Int)] 191)).heap.size,0,none⟩) _:=Q3u s1.sep 191 [.pointer (some ⟨g2,0,none⟩),.int .u32 y,.int .i64 (p2.fac:Int)];have hz:(w.alloc (.cells #[.pointer (some ⟨g1,0,none⟩),.int .u32 x,.int .i64 (p1.fac:Int)] 191)).heap.size=w.heap.size+1:=by simp
 rw[hz] at as2;refine Q9F (Z9o (w0:=w0) ok hM hx hy A3 A5 Az Ax Af L cap g1 g2 w.heap.size (w.heap.size+1) a0) hn hy ?_;exact⟨Z.F,SetP.start ok t1,(st.trans s1).trans s2,(Id.grown st.sep b1).grown s1.sep b2,(I8.grown st.sep b1).grown s1.sep b2,as1.step s2,as2,(BI.step s1).step s2⟩
end
theorem Q9G{t t':TB}(h:∀s,t'.en s=t.en s)(z:Int):t'.at' z=t.at' z:=by
 unfold TB.at';split
 ·rw[h]
 ·rfl
def fitV(Z:SP)(x y:Nat)(A:Nat->Mv)(i:Nat):Int:=Z0O ((Z.tb (x%256)).at' (A i).src) ((Z.tb (y%256)).at' (A i).dst) (A i) (Q1f A i (A i))
def J2A(Z:SP)(x y n:Nat)(A:Nat->Mv)(er:Int):Prop:=
 (pget Z.S.l 1 x=none/\er=8)∨∃p1,pget Z.S.l 1 x=some p1/\((p1.kind≠2/\er=10)∨(p1.kind=2/\((pget Z.S.l 1 y=none/\er=8)∨∃p2,pget Z.S.l 1 y=some p2/\((p2.kind≠2/\er=10) ∨
  (p2.kind=2/\∃i,i<n/\(∀j,j<i->fitV Z x y A j=0)/\fitV Z x y A i=er)))))
def WhyM(Z:SP)(fr:List Nat)(N K x y n:Nat)(own:Int)(A:Nat->Mv)(er:Int):Prop:=∃k S' t',k<n/\LaidP Z fr N K x y own A 0 k S' t'/\(k=0->S'=Z.S/\t'=Z.tb (y%256))/\WhyL (Z.setS S' (updT Z.tb (y%256) t')) fr own (y%256) (A k).dst.toNat er
def MoveR(Z:SP)(fr:List Nat)(N K:Nat)(M:Int)(x y n:Nat)(A:Nat->Mv)(w:World)(er:Int)(w':World):Prop:=
 (er≠0/\J2A Z x y n A er/\∃own,BackZ Z fr N K y own w w') ∨
 ∃p1 p2,pget Z.S.l 1 x=some p1/\p1.kind=2/\pget Z.S.l 1 y=some p2/\p2.kind=2/\AllFit Z.av.en x y n A /\
  ((er=0/\Q9E Z fr N K M x y n A w w')∨((er=4∨er=5)/\WhyM Z fr N K x y n p2.fac A er/\BackZ Z fr N K y p2.fac w w'))
theorem BackZ.of{Z:SP}{fr:List Nat}{N K:Nat}{M:Int}{y:Nat}(own:Int){w w':World}(hs:Sep w Z.hl)(ok:Z.Ok fr N K M)(hb:Below w.heap.size w w'):BackZ Z fr N K y own w w':=
 ⟨Z.S,Z.tb (y%256),ok.core,by rw[Q1c];exact ok.tpi,Alt.refl _ _,fun _ _=>rfl,fun _=>rfl,by rw[Q1c];exact hs.grown hb⟩
section
variable {Z:SP} {fr:List Nat} {N K:Nat} {M:Int} {x y n:Nat} {p1 p2:Pl} {A:Nat->Mv}
theorem Z6K{w:World}(ok:Z.Ok fr N K M)(hM:M+n<1099511627776)(hx:x<4294967296)(hy:y<4294967296)(A3:pget Z.S.l 1 x=some p1)(A5:p1.kind=2)(Az:pget Z.S.l 1 y=some p2)(Ax:p2.kind=2)(hn:n<=4611686018427387904)(cap g1 g2 B1 B2:Nat)(a0:Option Addr) :
  J2z Z.s g1 x g2 y (p1.fac:Int) (p2.fac:Int) B1 B2 a0 n cap A (fitV Z x y A)
   (fun k W=>∃S' t',LaidP Z fr N K x y (p2.fac:Int) A 0 k S' t'/\(k=0->S'=Z.S/\t'=Z.tb (y%256))/\Step Z.hl (Z.setS S' (updT Z.tb (y%256) t')).hl w W/\MvB (Z.setS S' (updT Z.tb (y%256) t')) p1 p2 g1 x g2 y B1 B2 n A a0 W)
   (fun er k j W=>(er=4∨er=5)/\k<n/\AllFit Z.av.en x y n A/\WhyM Z fr N K x y n (p2.fac:Int) A er/\∃S' t',LaidP Z fr N K x y (p2.fac:Int) A j k S' t'/\Step Z.hl (Z.setS S' (updT Z.tb (y%256) t')).hl w W/\MvB (Z.setS S' (updT Z.tb (y%256) t')) p1 p2 g1 x g2 y B1 B2 n A a0 W)
   (fun er W=>MoveR Z fr N K M x y n A w er W):=by
 have GX:=(pget_some.1 A3).1;have GP:=(pget_some.1 A3).2.2;have DQ:=(pget_some.1 Az).1;have JV:=(pget_some.1 Az).2.2;have A9:(∀j,j<n->fitV Z x y A j=0)->AllFit Z.av.en x y n A:=fun h i hi=>(Z2b A3 A5 Az Ax).1 (h i hi)
 have tts:∀{j k:Nat} {S':CO} {t':TB} {W:World},LaidP Z fr N K x y (p2.fac:Int) A j k S' t'->Step Z.hl (Z.setS S' (updT Z.tb (y%256) t')).hl w W->MvB (Z.setS S' (updT Z.tb (y%256) t')) p1 p2 g1 x g2 y B1 B2 n A a0 W->TT S' (updT Z.tb (y%256) t' (x%256)) p1 g1 W/\TT S' (updT Z.tb (y%256) t' (y%256)) p2 g2 W:=fun {j k S' t' W} L st mb=>by
  have hl:=L.alt.l;exact⟨(L.tpi.x (p1.fac:Int)).tt L.ok (by rw[hl];exact GX) GP A5 (SP.sS (Z:=Z.setS S' (updT Z.tb (y%256) t')) st.sep) mb.t1.c,(L.tpi.x (p2.fac:Int)).tt L.ok (by rw[hl];exact DQ) JV Ax (SP.sS (Z:=Z.setS S' (updT Z.tb (y%256) t')) st.sep) mb.t2.c⟩
 refine⟨fun k W h=>?_,fun er k j W h=>?_,fun k W W' h hb=>?_,fun er k j W W' h hb=>?_,fun i W hi h=>?_,fun i W hi h hv A1=>?_,fun k W hv hk h=>?_,fun er k j W hj h=>?_,fun er k W h=>?_,fun W hv h=>?_⟩
 ·obtain⟨S',t',L,L0,st,mb⟩:=h;exact mb.box
 ·obtain⟨_,_,_,_,S',t',L,st,mb⟩:=h;exact mb.box
 ·obtain⟨S',t',L,L0,st,mb⟩:=h;exact⟨S',t',L,L0,st.trans (st.sep.grown hb),mb.step (st.sep.grown hb) rfl⟩
 ·obtain⟨h1,h2,h3,h4,S',t',L,st,mb⟩:=h;exact⟨h1,h2,h3,h4,S',t',L,st.trans (st.sep.grown hb),mb.step (st.sep.grown hb) rfl⟩
 ·obtain⟨S',t',L,L0,st,mb⟩:=h;obtain⟨T1,T2⟩:=tts L st mb;have BF:∀s,t'.en s=(Z.tb (y%256)).en s:=fun s=>L.old s fun i h1 h2=>by omega
  have e1:(updT Z.tb (y%256) t' (x%256)).at' (A i).src=(Z.tb (x%256)).at' (A i).src:=by
   by_cases e:x%256=y%256
   ·rw[e,updT_same];exact Q9G BF _
   ·rw[Q0x e]
  have e2:(updT Z.tb (y%256) t' (y%256)).at' (A i).dst=(Z.tb (y%256)).at' (A i).dst:=by
   rw[updT_same];exact Q9G BF _
  have low:∀{u:Nat} {p:Pl} {z:Int},pget Z.S.l 1 u=some p->p.kind=2->∀e,(Z.tb (u%256)).at' z=some e->e.Low:=fun {u p z} hu hk e he=>by
   unfold TB.at' at he;split at he
   ·rename_i hz;refine ok.fpi.low ok.core.inv.lok (h:=u) (s:=z.toNat) ?_;rw[Q0h hu hk (by omega)];exact he
   ·cases he
  have k:=Z6J T1 T2 (m:=A i) (by rw[e1];exact low A3 A5) (by rw[e2];exact low Az Ax) x y (p1.fac:Int) (p2.fac:Int) mb.mv.1 (n:=i) cap (by omega) (by omega);rw[e1,e2] at k;exact k
 ·obtain⟨S',t',L,L0,st,mb⟩:=h;exact .inl ⟨hv,.inr ⟨p1,A3,.inr ⟨A5,.inr ⟨p2,Az,.inr ⟨Ax,i,hi,A1,rfl⟩⟩⟩⟩,_,L.back ok Az Ax st⟩
 ·have Af:=A9 hv;obtain⟨S',t',L,L0,st,mb⟩:=h;obtain⟨T1,T2⟩:=tts L st mb;obtain⟨e,he,DZ,JY,hc⟩:=L.src A3 A5 Az Ax Af (by omega) hk;have Au:=ok.fpi.low ok.core.inv.lok he;have JK:=Q1y T1 (x:Int) (p1.fac:Int) (A k).src fun e' AD=>by rw[JY] at AD;cases AD;exact Au
  rw[JY] at JK;refine⟨(e.h:Int),(e.r:Int),true,JK,fun W' h'=>?_⟩;obtain⟨S2,t2,L2,L20,st2,mb2⟩:=h';have hf:=(Af k hk).1;have PS:=hf.r;have I1:=hf.dst;have IU:e.r<16:=Au.2;have GI:bits .and .i64 (e.r:Int) (A k).r=((e.r&&&(A k).r.toNat:Nat):Int):=by
   have:=Q2t e.r (A k).r.toNat IU (by omega)
   rwa [show(((A k).r.toNat:Nat):Int)=(A k).r by omega] at this
  have Wm:=Q6l e.r IU (A k).r.toNat (by omega);have A8:(updT Z.tb (y%256) t2 (y%256)).en (A k).dst.toNat=none:=by
   rw[updT_same,L2.old _ fun q h1 h2 e2=>Af.dst hk (by omega) (by omega) e2];have:=av_none.1 hf.free
   rwa [Q0h Az Ax (by omega)] at this
  have kl:=Q8h (Z:=Z.setS S2 (updT Z.tb (y%256) t2)) st2.sep L2.ok L2.tpi (i:=y%256) (s:=(A k).dst.toNat) (x:=y) (g:=g2) (h:=e.h) (r:=e.r&&&(A k).r.toNat) (p:=p2) (by show S2.l[_]?=_;rw[L2.alt.l];exact DQ) JV Ax (by omega) A8 Au.1 (by omega) mb2.t2;rw[GI];rw[show(((A k).dst.toNat:Nat):Int)=(A k).dst by omega] at kl;refine kl.mono ?_;rintro rv w5⟨er,rfl,⟨rfl,nd,S3,t3,T,stt⟩|⟨Cv,FZ,P',tr,stt⟩⟩
  ·refine⟨0,rfl,.inl ⟨rfl,?_⟩⟩;have L3:=L2.lay ok Az Ax Af hk hc T;have e3:updT (updT Z.tb (y%256) t2) (y%256) t3=updT Z.tb (y%256) t3:=Q0V _ _ _ _;have stt':Step (Z.setS S2 (updT Z.tb (y%256) t2)).hl (Z.setS S3 (updT Z.tb (y%256) t3)).hl W' w5:=stt;exact⟨S3,t3,L3,fun h=>(by omega),st2.trans stt',mb2.step (Z':=Z.setS S3 (updT Z.tb (y%256) t3)) stt' T.alt.same.p⟩
  ·refine⟨er,rfl,.inr ⟨by omega,Cv,hk,Af,⟨k,S2,t2,hk,L2,L20,FZ⟩,S2.setP P',t2,L2.tried tr,st2.trans stt,?_⟩⟩;exact mb2.step (Z':=Z.setS (S2.setP P') (updT Z.tb (y%256) t2)) stt tr.same.p
 ·obtain⟨h1,h2,Af,h4,S',t',L,st,mb⟩:=h;obtain⟨c,nd,hc,BF⟩:=L.new j (J3h _) hj;have I1:=(Af j (by omega)).1.dst;have kb:=Q4q (Z:=Z.setS S' (updT Z.tb (y%256) t')) st.sep L.ok L.tpi (i:=y%256) (s:=(A j).dst.toNat) (x:=y) (g:=g2) (p:=p2) (by show S'.l[_]?=_;rw[L.alt.l];exact DQ) JV Ax (by omega) (by show(updT Z.tb (y%256) t' (y%256)).en _=_;rw[updT_same];exact BF) mb.t2;rw[show(((A j).dst.toNat:Nat):Int)=(A j).dst by omega] at kb;refine kb.mono ?_;rintro rv w5⟨rfl,S3,t3,T,stt⟩;have L3:=L.bare ok Az Ax Af (by omega) hj T;have stt':Step (Z.setS S' (updT Z.tb (y%256) t')).hl (Z.setS S3 (updT Z.tb (y%256) t3)).hl W w5:=stt
  exact⟨rfl,h1,h2,Af,h4,S3,t3,L3,st.trans stt',mb.step (Z':=Z.setS S3 (updT Z.tb (y%256) t3)) stt' T.alt.same.p⟩
 ·obtain⟨h1,h2,Af,h4,S',t',L,st,mb⟩:=h;exact .inr ⟨p1,p2,A3,A5,Az,Ax,Af,.inr ⟨h1,h4,L.back ok Az Ax st⟩⟩
 ·have Af:=A9 hv;obtain⟨S',t',L,L0,st,mb⟩:=h;refine(Z0P ok hM hx hy A3 A5 Az Ax hn Af L st mb.t1 mb.t2 mb.mv cap).mono ?_;rintro rv w'⟨rfl,hq⟩;exact⟨rfl,.inr ⟨p1,p2,A3,A5,Az,Ax,Af,.inl ⟨rfl,hq⟩⟩⟩
end
theorem Q9H{w:World}{Z:SP}{fr:List Nat}{N K:Nat}{M:Int}{x y n cap:Nat}{A:Nat->Mv}{a0:Option Addr}(hs:Sep w Z.hl)(ok:Z.Ok fr N K M)(hM:M+n<1099511627776)(hx:x<4294967296)(hy:y<4294967296)(hn:n<=4611686018427387904)(AW:n<=cap)(BI:AsideM Z.hl n A a0 w) :
  Calls prog 39 #[.pointer (some ⟨Z.s,0,none⟩),.int .u32 x,.int .u32 y,.slice a0 n cap] w fun rv w'=>∃er:Int,rv=.returned (.int .i64 er)/\MoveR Z fr N K M x y n A w er w':=by
 have err:∀{e:Int},e≠0->J2A Z x y n A e->Calls prog 39 #[.pointer (some ⟨Z.s,0,none⟩),.int .u32 x,.int .u32 y,.slice a0 n cap] w (Told w (.int .i64 e))->Calls prog 39 #[.pointer (some ⟨Z.s,0,none⟩),.int .u32 x,.int .u32 y,.slice a0 n cap] w fun rv w'=>∃er:Int,rv=.returned (.int .i64 er)/\MoveR Z fr N K M x y n A w er w':=fun {e} he h k=>by
  refine k.mono ?_;rintro rv w'⟨rfl,hb⟩;exact⟨e,rfl,.inl ⟨he,h,0,BackZ.of 0 hs ok hb⟩⟩
 cases A3:pget Z.S.l 1 x with
 | none=>exact err (by decide) (.inl ⟨A3,rfl⟩) (Q6m (by decide) (Q0K hs ok.core hx 8 (.inl ⟨A3,rfl⟩)))
 | some p1 =>
  by_cases A5:p1.kind=2
  ·have TW:=Q0Y hs ok.core hx A3 A5;have Nw:Calls prog 90 #[.pointer (some ⟨Z.s,0,none⟩),.int .u32 x] w fun r w'=>∃g:Nat,r=.returned (.tuple #[.agg #[.pointer (some ⟨g,0,none⟩),.int .u32 x,.int .i64 (p1.fac:Int)],.int .i64 0])/\Below w.heap.size w w':=TW.mono fun r w' ⟨g,h1,h2,_⟩=>⟨g,h1,h2⟩
   cases Az:pget Z.S.l 1 y with
   | none=>exact err (by decide) (.inr ⟨p1,A3,.inr ⟨A5,.inl ⟨Az,rfl⟩⟩⟩) (Q6n (g:=0) (by decide) Nw fun W hb=>Q0K (hs.grown hb).sep ok.core hy 8 (.inl ⟨Az,rfl⟩))
   | some p2 =>
    by_cases Ax:p2.kind=2
    ·refine Z3G hn AW (A:=A) (V:=fitV Z x y A) (Q:=fun er W=>MoveR Z fr N K M x y n A w er W) (TW.mono ?_);rintro rv w1⟨g1,rfl,Aq,Id⟩;have st1:=hs.grown Aq;have Db:Below w1.heap.size w1 (w1.alloc (.cells #[.pointer (some ⟨g1,0,none⟩),.int .u32 x,.int .i64 (p1.fac:Int)] 191)):=(Below.refl _ _).alloc (J3h _) _;have st1b:=st1.sep.grown Db;have as1:AsideV Z.hl [.pointer (some ⟨g1,0,none⟩),.int .u32 x,.int .i64 (p1.fac:Int)] (some ⟨w1.heap.size,0,none⟩) (w1.alloc (.cells #[.pointer (some ⟨g1,0,none⟩),.int .u32 x,.int .i64 (p1.fac:Int)] 191)):=Q3u st1.sep _ _;refine⟨g1,(p1.fac:Int),rfl,(Q0Y st1b.sep ok.core hy Az Ax).mono ?_⟩
     rintro rv w2⟨g2,rfl,Ae,I8⟩;have st2:=st1b.sep.grown Ae;have Kw:Below w2.heap.size w2 (w2.alloc (.cells #[.pointer (some ⟨g2,0,none⟩),.int .u32 y,.int .i64 (p2.fac:Int)] 191)):=(Below.refl _ _).alloc (J3h _) _;have st2b:=st2.sep.grown Kw;have as2:AsideV Z.hl [.pointer (some ⟨g2,0,none⟩),.int .u32 y,.int .i64 (p2.fac:Int)] (some ⟨w2.heap.size,0,none⟩) (w2.alloc (.cells #[.pointer (some ⟨g2,0,none⟩),.int .u32 y,.int .i64 (p2.fac:Int)] 191)):=Q3u st2.sep _ _;have stall:=((st1.trans st1b).trans st2).trans st2b;refine⟨g2,(p2.fac:Int),rfl,_,_,Z6K ok hM hx hy A3 A5 Az Ax hn cap g1 g2 w1.heap.size w2.heap.size a0,Z.S,Z.tb (y%256),LaidP.start ok _,fun _=>⟨rfl,rfl⟩,?_,?_⟩
     ·rw[Q1c];exact stall
     ·rw[Q1c];exact⟨((Id.grown st1.sep Db).grown st1b.sep Ae).grown st2.sep Kw,I8.grown st2.sep Kw,(as1.step st2).step st2b,as2,BI.step stall⟩
    ·exact err (by decide) (.inr ⟨p1,A3,.inr ⟨A5,.inr ⟨p2,Az,.inl ⟨Ax,rfl⟩⟩⟩⟩) (Q6n (g:=0) (by decide) Nw fun W hb=>Q0K (hs.grown hb).sep ok.core hy 10 (.inr ⟨p2,Az,Ax,rfl⟩))
  ·exact err (by decide) (.inr ⟨p1,A3,.inl ⟨A5,rfl⟩⟩) (Q6m (by decide) (Q0K hs ok.core hx 10 (.inr ⟨p1,A3,A5,rfl⟩)))
theorem Z9p(Q:List (Nat×Nat))(n:Nat):(Q.filter fun q=>decide (q.1<n+1)).length=(Q.filter fun q=>decide (q.1<n)).length+(Q.filter fun q=>decide (q.1=n)).length:=by
 induction Q with
 | nil=>rfl
 | cons q r ih =>
  simp only[J7j];by_cases h1:q.1<n
  ·rw[if_pos (by simp;omega),if_pos (by simpa using h1),if_neg (by simp;omega)];simp only[J3O];omega
  ·by_cases h2:q.1=n
   ·rw[if_pos (by simp;omega),if_neg (by simpa using h1),if_pos (by simpa using h2)];simp only[J3O];omega
   ·rw[if_neg (by simp;omega),if_neg (by simpa using h1),if_neg (by simpa using h2)];exact ih
theorem Q6o{α:Type}(f:Nat->Option α)(m i:Nat)(Q:List (Nat×Nat))(h:∀s,s<m->f s≠none->(i,s)∈Q):((List.range m).filterMap f).length<=(Q.filter fun q=>decide (q.1=i)).length:=by
 have e:((List.range m).filterMap f).length=(((List.range m).filter fun s=>(f s).isSome).map fun s=>(i,s)).length:=by
  rw[J4K];generalize List.range m=L
  induction L with
  | nil=>rfl
  | cons a r ih =>
   rw[J3u,J7j];cases f a with
   | none=>simpa using ih
   | some b=>simp[ih]
 rw[e];have AP:(((List.range m).filter fun s=>(f s).isSome).map fun s=>(i,s)).Nodup:=by
  refine J3L.2 ((J6U.filter _).imp fun Ac he=>Ac ?_);exact(Prod.mk.inj he).2
 refine AP.length_le_of_subset fun q hq=>?_
 obtain⟨s,hs,rfl⟩:=J3n.1 hq;obtain⟨h1,h2⟩:=J3B.1 hs;refine J3B.2 ⟨h s (J3x.1 h1) (fun h0=>by rw[h0] at h2;cases h2),by simp⟩
theorem Q4M(f:Nat->List Nat)(Q:List (Nat×Nat)):∀n,(∀i,i<n->(f i).length<=(Q.filter fun q=>decide (q.1=i)).length)->((List.range n).flatMap f).length<=(Q.filter fun q=>decide (q.1<n)).length
 | 0,_=>by simp
 | n+1,h=>by
  rw[J3s,J3M,J3N,Z9p];have h1:=Q4M f Q n fun i hi=>h i (by omega)
  have h2:=h n (by omega);simp only[J3E,J7b,J5h];omega
theorem Z6L{tb:Nat->TB}(Q:List (Nat×Nat))(h:∀i s,i<256->s<256->(tb i).en s≠none->(i,s)∈Q):(Q2r tb).length<=Q.length:=by
 refine J3i (Q4M _ Q 256 fun i hi=>?_) (J5q _ _);refine Q6o _ 256 i Q fun s hs h0=>h i s hi hs fun e=>h0 ?_
 rw[e];rfl
theorem Z6M{tb:Nat->TB}(hf:∀i,i<256->(tb i).Full)(Q:List (Nat×Nat))(h:∀i s,i<256->s<256->(tb i).en s≠none->(i,s/16)∈Q):(Q1Z tb).length<=Q.length:=by
 refine J3i (Q4M _ Q 256 fun i hi=>?_) (J5q _ _);refine Q6o _ 16 i Q fun k hk h0=>?_
 obtain⟨s,h1,h2,h3⟩:=hf i hi k hk fun e=>h0 (by rw[if_pos e])
 rw[<- h2];exact h i s hi h1 h3
theorem J0k(l:List Pl)(tb:Nat->TB)(id:Int):∀n,((List.range n).map fun i=>xcP tb id i l[i]?).sum<=256*(((List.range n).flatMap fun i=>(tb i).lvs).length:Int)+48*(((List.range n).flatMap fun i=>(tb i).nds).length:Int)
 | 0=>by simp
 | n+1=>by
  have ih:=J0k l tb id n;rw[J3s,J6E,J6O,J3M,J3M,J3N,J3N];simp only[J3k,J5H,J6M,List.sum_nil,J3E,J7b,J5h];have h1:xcP tb id n l[n]?<=(tb n).cost:=by
   have hc:=(tb n).cost_nn;unfold xcP;split
   ·split
    ·omega
    ·exact hc
   ·exact hc
  unfold TB.cost at h1;omega
theorem J1y(l:List Pl)(tb:Nat->TB)(id:Int):xcOf l tb id<=256*((Q1Z tb).length:Int)+48*((Q2r tb).length:Int):=J0k l tb id 256
theorem Z9q{P:PL}{fr:List Nat}(ok:P.Ok fr):P.d.ps.length<=fr.length+((List.range 8).map fun k=>(P.usedOf k).length).sum:=by
 rw[<- ok.pages.length_eq,J3N];have AP:=(ok.pages.nodup_iff).2 ok.d.nd;have DE:P.pages.Nodup:=(J3U.1 AP).2.1;have h1:P.pages.length<=(((List.range 8).flatMap P.usedOf).map fun a=>a/1024).length:=by
  refine DE.length_le_of_subset fun g hg=>?_
  obtain⟨k,a,ha,rfl⟩:=(Q4E ok g).1 hg;have:=Q1M ok ha;exact J3n.2 ⟨a,J3G.2 ⟨k,J3x.2 (by omega),ha⟩,rfl⟩
 rw[J4K,List.length_flatMap] at h1;omega
theorem Q9I:∀l:List Pl,(Q1Y l 8).length+(Q1Y l 1).length+(Q1Y l 2).length+(Q1Y l 3).length+(Q1Y l 4).length+(Q1Y l 5).length<=(l.filter Pl.is).length
 | []=>by simp[Q1Y]
 | p::r=>by
  have ih:=Q9I r;have step:∀k,(Q1Y (p::r) k).length=(Q1Y r k).length+if p.is=true/\p.kind=k then 1 else 0:=fun k=>by
   unfold Q1Y;rw[J3u];by_cases h:p.is=true/\p.kind=k
   ·rw[if_pos h];have:atsF k p=some p.at_:=by unfold atsF;simp[h.1,h.2]
    rw[this];rfl
   ·rw[if_neg h];have:atsF k p=none:=by
     unfold atsF;rw[if_neg]
     simpa using h
    rw[this];rfl
  rw[step,step,step,step,step,step,J7j];by_cases hi:p.is=true
  ·rw[if_pos hi,J3O];simp only[hi,true_and];by_cases h8:p.kind=8
   ·simp[h8];omega
   ·by_cases h1:p.kind=1
    ·simp[h1];omega
    ·by_cases h2:p.kind=2
     ·simp[h2];omega
     ·by_cases h3:p.kind=3
      ·simp[h3];omega
      ·by_cases h4:p.kind=4
       ·simp[h4];omega
       ·by_cases h5:p.kind=5
        ·simp[h5];omega
        ·simp[h8,h1,h2,h3,h4,h5];omega
  ·rw[if_neg hi];simp only[hi]
   simpa using ih
theorem Z3H{S:CO}{fr:List Nat}{N K:Nat}(ok:S.Ok fr N K):S.P.d.ps.length<=(S.l.filter Pl.is).length+(S.P.usedOf 7).length+(S.P.usedOf 6).length:=by
 have h1:=Z9q ok.inv.mem.pool;have h2:=Q9I S.l;have hf:(Q1Y S.l 8).length=fr.length:=by rw[ok.inv.mem.frs.length_eq,J4K]
 have hk:∀k,1<=k->k<=5->(Q1Y S.l k).length=(S.P.usedOf k).length:=fun k a b=>(ok.inv.mem.ats k a b).length_eq
 have h0:(S.P.usedOf 0).length=0:=by
  cases hu:S.P.usedOf 0 with
  | nil=>rfl
  | cons a r =>
   have:=Q1M ok.inv.mem.pool (k:=0) (a:=a) (by rw[hu];simp);omega
 have e:((List.range 8).map fun k=>(S.P.usedOf k).length).sum=(S.P.usedOf 0).length+((S.P.usedOf 1).length+((S.P.usedOf 2).length+((S.P.usedOf 3).length+((S.P.usedOf 4).length+((S.P.usedOf 5).length+((S.P.usedOf 6).length+((S.P.usedOf 7).length+0))))))):=rfl;have q1:=hk 1 (by omega) (by omega);have q2:=hk 2 (by omega) (by omega);have q3:=hk 3 (by omega) (by omega);have q4:=hk 4 (by omega) (by omega);have q5:=hk 5 (by omega) (by omega);omega
theorem J2B{Z:SP}{fr:List Nat}{N K:Nat}(ok:Z.S.Ok fr N K)(t:TPI Z.S Z.tb){own:Int}{e:En Fa}(he:find Z.S.P.q.E own=some e){i s:Nat}{er:Int}{o lv nd:Nat}(ho:(Z.S.l.filter Pl.is).length<=o)(hl:(Q1Z Z.tb).length<=lv)(hn:(Q2r Z.tb).length<=nd)(hp:o+lv+nd+1<64)
  (hq:Q0Q Z.S.l own+256*(lv:Int)+48*(nd:Int)+304<=e.q.limit-e.q.given):¬WhyL Z fr own i s er:=by
 have hc:=Z3H ok;have h7:=t.lvs.length_eq;have h6:=t.nds.length_eq;have Qq:=ok.inv.mem.pool.top;have Vn:64<=2 ^ Z.S.P.d.top:=J3i (by decide:64<=2 ^ 6) (J4p (by omega) Qq);have BY:=ok.inv.tre.charged own e he;have hx:=J1y Z.S.l Z.tb own;rw[t.xc] at BY;rintro(⟨_,e',AD,Au⟩|⟨_,Aw⟩|⟨a,P1,g,_,⟨_,e',AD,Au⟩|⟨_,Aw⟩⟩)
 ·rw[he] at AD;cases AD;unfold Q0u at Au;omega
 ·have:=Aw.page.len;omega
 ·obtain⟨e0,Cu,_,hE⟩:=g.q;rw[he] at Cu;cases Cu;rw[hE] at AD;have hf:=Q0n he {e.q with charged:=e.q.charged+((Q0e 6:Nat):Int)};rw[show({Z.S.P.q with E:=upd Z.S.P.q.E own {e.q with charged:=e.q.charged+((Q0e 6:Nat):Int)}}:QT).E=upd Z.S.P.q.E own {e.q with charged:=e.q.charged+((Q0e 6:Nat):Int)} from rfl,hf] at AD;cases AD;unfold Q0u at Au;simp only[Q4H] at Au;omega
 ·have h1:=Aw.page.len;have h2:=(g.gotM ok.inv.mem.pool).few;rw[g.top] at h1;omega
end Go.Proofs.YtfidemmgofcnmaaGreatDoor
